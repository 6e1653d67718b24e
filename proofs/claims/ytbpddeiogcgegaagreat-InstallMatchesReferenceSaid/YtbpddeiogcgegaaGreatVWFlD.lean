/-
  Part of a proof.
-/
import Derived.Test.YtbpddeiogcgegaaGreatVWSvD
set_option maxHeartbeats 0
set_option maxRecDepth 4000
set_option linter.all false
namespace Go.Proofs.YtbpddeiogcgegaaGreat
open Go.Sl
theorem pT (f:Fl)(a:Fa)(ok:f.Ok)(_hh:a.hs.length=f.data.length)(x:Fo)(XA:Option Addr)(xc:Nat)(_hxl:x.data.length≤9223372036854775807):
    Ctr X 51 [flV f a,.agg (List.toArray [.int .i64 x.kind,.int .i64 x.sec,.int .i64 x.at_,.slice XA x.data.length xc])] (flR f a++[Rd XA (U8 x.data)]) [] (fun v R' H'=>v=.int .i64 (aF f x)∧R'=[]∧H'=[]):=by
 obtain ⟨os1,os2,on1,on2,owl,odl,orows,ol1,ol2,owear⟩:=ok;refine co Tryz.func51 ?_;intro β;apply Y 0x4a;intro A2;apply Y 0x2b;intro A3;apply Y 0x481b7c92e549;refine L.bool 8 rfl (imp ky ?_) (imp kA ?_)<;>intro
 ·apply Zu 0x5d38461e440e4<;>intro
  ·apply Y 0x60e4c
   exact vo oe
  apply Zu 0xe71f48a8a9ec1e6f81b5899<;>intro hg21
  ·have q21:¬(0≤x.sec∧x.sec≤(f.data.length:Int)-1):=by simp at hg21;omega
   apply Y 0x1dd3939393939;refine C.cond rfl (fun _=>?_) (fun h=>by cases h);exact Zm 0x27e60e4c
  have q21:0≤x.sec∧x.sec≤(f.data.length:Int)-1:=by simp at hg21;omega
  apply Zu 0x803facac61e440e4<;>intro
  ·apply Y 0xacaca8a9e41c61e440e4;refine L.bool 32 rfl ?_ ?_<;>intro hg32
   ·have q32:¬(0≤x.at_∧x.at_≤(f.size:Int)):=by simp at hg32;omega
    apply Y 0x38b91d39;refine C.cond rfl (fun _=>?_) (fun h=>by cases h);exact Zm 0x27e60e4c
   have q32:0≤x.at_∧x.at_≤(f.size:Int):=by simp at hg32;omega
   apply Zu 0xe9edc1e461e440e4b2eb961e440e4<;>intro
   ·exact Zm 0x27e60e4c
   apply Zu 0x1a882eeafe1bf85899<;>intro hc50
   ·exact Zm 0x6c0f60e4c
   apply Zu 0x1f0f2aa3ed3e6d59d<;>intro
   ·apply Zu 0xec52e2a2850e28a0e28bae28dfe28a3e28d3e2850e28a0e28<;>intro
    ·exact Zm 0x8c0f60e4c
    exact Zm 0xfee60ed9c999
   apply Y 0x80ee4efbfb;refine C.cond rfl (fun h=>by cases h) (fun _=>?_);exact Zm 0xfee60ed9c999
  apply Y 0x3841d393939;refine C.cond rfl (fun h=>by cases h) (fun _=>?_);apply Zu 0x1a882eeafe1bf85899<;>intro hc50
  ·exact Zm 0x6c0f60e4c
  apply Zu 0x1f0f2aa3ed3e6d59d<;>intro
  ·apply Zu 0xec52e2a2850e28a0e28bae28dfe28a3e28d3e2850e28a0e28<;>intro
   ·exact Zm 0x8c0f60e4c
   exact Zm 0xfee60ed9c999
  apply Y 0x80ee4efbfb;refine C.cond rfl (fun h=>by cases h) (fun _=>?_);exact Zm 0xfee60ed9c999
 apply Y 0x19a;refine C.cond rfl (fun h=>by cases h) (fun _=>?_);apply Zu 0xe71f48a8a9ec1e6f81b5899<;>intro hg21
 ·have q21:¬(0≤x.sec∧x.sec≤(f.data.length:Int)-1):=by simp at hg21;omega
  apply Y 0x1dd3939393939;refine C.cond rfl (fun _=>?_) (fun h=>by cases h);exact Zm 0x27e60e4c
 have q21:0≤x.sec∧x.sec≤(f.data.length:Int)-1:=by simp at hg21;omega
 apply Zu 0x803facac61e440e4<;>intro
 ·apply Y 0xacaca8a9e41c61e440e4;refine L.bool 32 rfl ?_ ?_<;>intro hg32
  ·have q32:¬(0≤x.at_∧x.at_≤(f.size:Int)):=by simp at hg32;omega
   apply Y 0x38b91d39;refine C.cond rfl (fun _=>?_) (fun h=>by cases h);exact Zm 0x27e60e4c
  have q32:0≤x.at_∧x.at_≤(f.size:Int):=by simp at hg32;omega
  apply Zu 0xe9edc1e461e440e4b2eb961e440e4<;>intro
  ·exact Zm 0x27e60e4c
  apply Zu 0x1a882eeafe1bf85899<;>intro hc50
  ·exact Zm 0x6c0f60e4c
  apply Zu 0x1f0f2aa3ed3e6d59d<;>intro
  ·apply Zu 0xec52e2a2850e28a0e28bae28dfe28a3e28d3e2850e28a0e28<;>intro
   ·exact Zm 0x8c0f60e4c
   exact Zm 0xfee60ed9c999
  apply Y 0x80ee4efbfb;refine C.cond rfl (fun h=>by cases h) (fun _=>?_);exact Zm 0xfee60ed9c999
 apply Y 0x3841d393939;refine C.cond rfl (fun h=>by cases h) (fun _=>?_);apply Zu 0x1a882eeafe1bf85899<;>intro hc50
 ·exact Zm 0x6c0f60e4c
 apply Zu 0x1f0f2aa3ed3e6d59d<;>intro
 ·apply Zu 0xec52e2a2850e28a0e28bae28dfe28a3e28d3e2850e28a0e28<;>intro
  ·exact Zm 0x8c0f60e4c
  exact Zm 0xfee60ed9c999
 apply Y 0x80ee4efbfb;refine C.cond rfl (fun h=>by cases h) (fun _=>?_);exact Zm 0xfee60ed9c999
theorem sP (f:Fl)(a:Fa)(ok:f.Ok)(_hh:a.hs.length=f.data.length)(x:Fo)(XA:Option Addr)(xc:Nat)(_hxl:x.data.length≤9223372036854775807):
    Ctr X 117 [flV f a,.agg (List.toArray [.int .i64 x.kind,.int .i64 x.sec,.int .i64 x.at_,.slice XA x.data.length xc])] (flR f a++[Rd XA (U8 x.data)]) [] (fun v R' H'=>v=.int .i64 (aF f x)∧R'=[]∧H'=[]):=by
 obtain ⟨os1,os2,on1,on2,owl,odl,orows,ol1,ol2,owear⟩:=ok;have hw:0≤x.sec∧x.sec<(f.data.length:Int)→f.wear.getD x.sec.toNat 0≤f.limit:=fun h=>(owear _ oe).2
 refine co Tryz.func117 ?_;intro β;apply Y 0x4a;intro A2;apply Y 0x2b;intro A3;apply Y 0xb87ba580e2aa3ed3efca3ed3e6d7ae92e49;refine L.bool 16 rfl ?_ ?_<;>intro hg16
 ·replace hg16:=(Bool.not_eq_true' _).mp hg16;replace hg16:=fz hg16;apply Zu 0x1ae8b9<;>intro hc13
  ·replace hc13:=(Bool.not_eq_true' _).mp hc13;replace hc13:=fz hc13;apply Y 0x60e8b70e
   exact vo oe
  replace hc13:=(Bool.not_eq_false' _).mp hc13;replace hc13:=fA hc13;apply Zu 0xed0f481b58<;>intro
  ·apply Y 0x38dd39;refine C.cond rfl (fun _=>?_) (fun h=>by cases h);apply Y 0x99;refine C.cond rfl (fun _=>?_) (fun h=>by cases h);exact Zm 0x27e60e8b70e
  apply Zu 0x79e8b91c61e440e4<;>intro hc20
  ·apply Y 0x99;refine C.cond rfl (fun _=>?_) (fun h=>by cases h);exact Zm 0x27e60e8b70e
  apply Zu 0xc03f9c<;>intro
  ·apply Zu 0xe03facac61e440e4<;>intro
   ·apply Y 0xe841d39acac1d;refine C.cond rfl (fun _=>?_) (fun h=>by cases h);exact Zm 0x27e60e8b70e
   apply Zu 0x381facacac1c61e440e4<;>intro
   ·apply Y 0xe841d39;refine C.cond rfl (fun _=>?_) (fun h=>by cases h);exact Zm 0x27e60e8b70e
   apply Zu 0x79e8b9c1e461e440e4b2eb961e440e4<;>intro
   ·exact Zm 0x27e60e8b70e
   apply Zu 0x1a12eeafe1bf87<;>intro hc56
   ·exact Zm 0x7c0f60e8b70e
   apply Zu 0x2f0f2a6d5<;>intro
   ·apply Zu 0x7980e2a2850e28a0e28bae28dfe28a3e28d3e2850e28a0e28<;>intro
    ·exact Zm 0x9c0f60e8b70e
    exact Zm 0x1fe60ed9c974e5a
   apply Y 0x52e2ae4efbfb;refine C.cond rfl (fun h=>by cases h) (fun _=>?_);exact Zm 0x1fe60ed9c974e5a
  apply Y 0x381d39393939;refine C.cond rfl (fun h=>by cases h) (fun _=>?_);apply Zu 0x1a12eeafe1bf87<;>intro hc56
  ·exact Zm 0x7c0f60e8b70e
  apply Zu 0x2f0f2a6d5<;>intro
  ·apply Zu 0x7980e2a2850e28a0e28bae28dfe28a3e28d3e2850e28a0e28<;>intro
   ·exact Zm 0x9c0f60e8b70e
   exact Zm 0x1fe60ed9c974e5a
  apply Y 0x52e2ae4efbfb;refine C.cond rfl (fun h=>by cases h) (fun _=>?_);exact Zm 0x1fe60ed9c974e5a
 replace hg16:=(Bool.not_eq_false' _).mp hg16;replace hg16:=fA hg16;apply Y 0x38dd;refine C.cond rfl (fun h=>by cases h) (fun _=>?_);apply Zu 0xed0f481b58<;>intro
 ·apply Y 0x38dd39;refine C.cond rfl (fun _=>?_) (fun h=>by cases h);apply Y 0x99;refine C.cond rfl (fun _=>?_) (fun h=>by cases h);exact Zm 0x27e60e8b70e
 apply Zu 0x79e8b91c61e440e4<;>intro hc20
 ·apply Y 0x99;refine C.cond rfl (fun _=>?_) (fun h=>by cases h);exact Zm 0x27e60e8b70e
 apply Zu 0xc03f9c<;>intro
 ·apply Zu 0xe03facac61e440e4<;>intro
  ·apply Y 0xe841d39acac1d;refine C.cond rfl (fun _=>?_) (fun h=>by cases h);exact Zm 0x27e60e8b70e
  apply Zu 0x381facacac1c61e440e4<;>intro
  ·apply Y 0xe841d39;refine C.cond rfl (fun _=>?_) (fun h=>by cases h);exact Zm 0x27e60e8b70e
  apply Zu 0x79e8b9c1e461e440e4b2eb961e440e4<;>intro
  ·exact Zm 0x27e60e8b70e
  apply Zu 0x1a12eeafe1bf87<;>intro hc56
  ·exact Zm 0x7c0f60e8b70e
  apply Zu 0x2f0f2a6d5<;>intro
  ·apply Zu 0x7980e2a2850e28a0e28bae28dfe28a3e28d3e2850e28a0e28<;>intro
   ·exact Zm 0x9c0f60e8b70e
   exact Zm 0x1fe60ed9c974e5a
  apply Y 0x52e2ae4efbfb;refine C.cond rfl (fun h=>by cases h) (fun _=>?_);exact Zm 0x1fe60ed9c974e5a
 apply Y 0x381d39393939;refine C.cond rfl (fun h=>by cases h) (fun _=>?_);apply Zu 0x1a12eeafe1bf87<;>intro hc56
 ·exact Zm 0x7c0f60e8b70e
 apply Zu 0x2f0f2a6d5<;>intro
 ·apply Zu 0x7980e2a2850e28a0e28bae28dfe28a3e28d3e2850e28a0e28<;>intro
  ·exact Zm 0x9c0f60e8b70e
  exact Zm 0x1fe60ed9c974e5a
 apply Y 0x52e2ae4efbfb;refine C.cond rfl (fun h=>by cases h) (fun _=>?_);exact Zm 0x1fe60ed9c974e5a
theorem D1 (i:Nat)(o:UInt8)(x:Fo)(XA A:Option Addr)(xc:Nat)(hi:i≤1000000)(h0:0≤x.at_)(h1:x.at_≤1000000)(hxl:x.data.length≤1000000)(hk:x.kind≠1):
    Ctr X 181 [.int .i64 (i:Int),.int .u8 (o.toNat:Int),ag A 0] [Rd A [.int .i64 x.kind,.int .i64 x.sec,.int .i64 x.at_,.slice XA x.data.length xc],Rd XA (U8 x.data)] [] (fun v R' H'=>v=.int .u8 ((wM x i o).toNat:Int)∧R'=[]∧H'=[]):=by
 refine co Tryz.func181 ?_;intro β;apply Zu 0x671fb871c1ef8658c9<;>intro
 ·apply Zu 0xe9b9b2eb9<;>intro
  ·apply Y 0x6f8f9;refine sp (ae (k:=((i:Int)-x.at_).toNat) rfl rfl rfl rfl rfl rfl oe oe (Src.r 1 rfl) oI) ?_;apply Y 0x44e8b591440f911f;rw [sV hk oe];exact Zm 0x2
  apply Y 0x44ed9c899;rw [m5 hk oe];exact Zm 0x2
 apply Y 0x11d;refine C.cond rfl (fun h=>by cases h) (fun _=>?_);apply Y 0x44ed9c899;rw [m5 hk oe];exact Zm 0x2
theorem kY (A B:Option Addr)(c d:Nat)(xs ys:List UInt8)(hxs:xs.length≤9223372036854775807)(hys:ys.length≤9223372036854775807):
    Ctr X 53 [.slice A xs.length c,.slice B ys.length d] [Rd A (U8 xs),Rd B (U8 ys)] [] (fun v R' H'=>v=.bool (xs==ys)∧R'=[]∧H'=[]):=by
 refine co Tryz.func53 ?_;intro β;apply Zu 0x5de8bdc9<;>intro hc10
 ·apply Y 0x44e4c
  simp [tup];intro h;subst h
  simp at hc10
 apply Y 0xad9d;refine lp [0,1] [_,_] (fun k:Nat=>[(5,.int .i64 (k:Int))]) (kz [_,_]) nz (fun k=>k≤xs.length∧xs.take k=ys.take k) (fun k=>xs.length-k) 0 ⟨by omega,by simp⟩ (lk [0,1] []) ?_;apply Y 0xa1e;intro k hk htk;apply Zu 0xe9bd<;>intro
 ·apply Zu 0x5d80efe1fce1f2aaae290f2a6d589<;>intro hc25
  ·apply Y 0x44e8bdc70e
   simp [tup];intro h;subst h
   simp at hc25
  apply Y 0xa73f8a5a;refine ⟨by omega,?_⟩;rw [aB xs 0 k oe,aB ys 0 k oe,htk,dN.1 hc25]
 apply Y 0x44ed9c9a9;have hke:k=xs.length:=oe;subst hke;rw [List.take_of_length_le (Nat.le_refl _),List.take_of_length_le oe] at htk
 simp [tup,htk]
theorem Fo.beq {x y:Fo}(h1:x.kind=y.kind)(h2:x.sec=y.sec)(h3:x.at_=y.at_):(x.data==y.data)=decide (x=y):=by
 cases x
 cases y
 simp only at h1 h2 h3;subst h1 h2 h3;exact Zm 0x81ef3e
theorem FW (f g:Fl)(a b:Fa)(sf:f.Sm)(sg:g.Sm)(hf:a.hs.length=f.data.length)(hg:b.hs.length=g.data.length):
    Ctr X 21 [flV f a,flV g b] (flR f a++[Rd b.D (ay b.hs (B8 g.data)),KidsR b.hs (B8 g.data),Rd b.W (I64 g.wear),Rd b.E (Bs g.dead)]) [] (fun v R' H'=>v=.bool (decide (f=g))∧R'=[]∧H'=[]):=by
 obtain ⟨sf1,sf2,sf3,sf4⟩:=sf;obtain ⟨sg1,sg2,sg3,sg4⟩:=sg;refine co Tryz.func21 ?_;intro β;apply Y 0x4a;intro A2;apply Y 0x2b;intro A3;apply Y 0x48f81b7cdb549;refine L.bool 13 rfl (imp ky ?_) (imp kA ?_)<;>intro
 ·apply Y 0x19aea9aea9aea1d;refine C.cond rfl (fun _=>?_) (fun h=>by cases h);apply Y 0x4c;refine ⟨congrArg Value.bool (Eq.symm (decide_eq_false fun h=>?_)),rfl,rfl⟩;subst h;exact Zm 0x18
 apply Y 0xb841c61e440e4;refine L.bool 20 rfl (imp ky ?_) (imp kA ?_)<;>intro
 ·apply Y 0x19aea9aea9a39;refine C.cond rfl (fun _=>?_) (fun h=>by cases h);apply Y 0x4c;refine ⟨congrArg Value.bool (Eq.symm (decide_eq_false fun h=>?_)),rfl,rfl⟩;subst h;exact Zm 0x18
 apply Y 0xb8b9b2eb961e440e4;refine L.bool 29 rfl (imp ky ?_) (imp kA ?_)<;>intro
 ·apply Y 0x19aea9a39;refine C.cond rfl (fun _=>?_) (fun h=>by cases h);apply Y 0x4c;refine ⟨congrArg Value.bool (Eq.symm (decide_eq_false fun h=>?_)),rfl,rfl⟩;subst h;exact Zm 0x18
 apply Y 0xb8b9b2eb961e440e4;refine L.bool 38 rfl (imp ky ?_) (imp kA ?_)<;>intro
 ·apply Y 0x19a39;refine C.cond rfl (fun _=>?_) (fun h=>by cases h);apply Y 0x4c;refine ⟨congrArg Value.bool (Eq.symm (decide_eq_false fun h=>?_)),rfl,rfl⟩;subst h;exact Zm 0x18
 apply Zu 0x5d38b9b2eb961e440e4<;>intro
 ·apply Y 0x4c;refine ⟨congrArg Value.bool (Eq.symm (decide_eq_false fun h=>?_)),rfl,rfl⟩;subst h;exact Zm 0x18
 apply Y 0xad9d;refine lp [0,1,2,3] [_,_,_,_] (fun k:Nat=>[(5,.int .i64 (k:Int))]) (kz [_,_,_,_,_,_,_,_,_,_]) nz (fun k=>k≤f.data.length∧∀ i,i<k→f.data.getD i []=g.data.getD i []) (fun k=>f.data.length-k) 0 ⟨by omega,fun i h=>absurd h (Nat.not_lt_zero i)⟩ (lk [0,1,2,3,4,5,6,7,8,9] []) ?_;apply Y 0xa1e;intro k hk5 hr5;apply Zu 0xe91b658<;>intro
 ·apply Y 0xfca3ed3e6d589;refine sq (ae (k:=k) rfl rfl rfl rfl rfl rfl rfl oe (Src.r 2 rfl) (by rw [bk (by rw [bF];exact hf),bF];omega)) ?_;refine sq (Ev.load rfl rfl rfl (Src.r 2 rfl) (aK hf oe)) ?_;apply Y 0xfc50ea0e;refine sq (ae (k:=k) rfl rfl rfl rfl rfl rfl rfl oe (Src.r 6 rfl) (by rw [bk (by rw [bF];exact hg),bF];omega)) ?_;refine sq (Ev.load rfl rfl rfl (Src.r 6 rfl) (aK hg oe)) ?_;refine LQ.call (.bool (f.data.getD k []==g.data.getD k [])) (kY _ _ _ _ _ _ (Nat.le_trans (sf4 k) ob) (Nat.le_trans (sg4 k) ob)) (fun _ _ _ h=>h.1) rfl ⟨((Has.kid 3 rfl (by rw [bF];exact hf) (k) oZ).cast (aW _)),((Has.kid 7 rfl (by rw [bF];exact hg) (k) oZ).cast (aW _)),trivial⟩ rfl ?_;apply Zu 0x1a80e<;>intro hc65
  ·apply Y 0x8bdc70e;refine ⟨congrArg Value.bool (Eq.symm (decide_eq_false fun h=>?_)),rfl,rfl⟩;subst h
   simp at hc65
  apply Y 0x7a1f8a5a;refine ⟨by omega,fun i hi=>?_⟩
  by_cases hik:i<k
  ·exact hr5 i hik
  obtain rfl:i=k:=oe
  exact eq_of_beq (by simpa using hc65)
 apply Y 0xad5a9;refine lp [0,1,2,3] [_,_,_,_] (fun k:Nat=>[(6,.int .i64 (k:Int))]) (kz [_,_,_,_,_,_,_,_,_,_]) nz (fun k=>k≤f.wear.length∧∀ i,i<k→f.wear.getD i 0=g.wear.getD i 0) (fun k=>f.wear.length-k) 0 ⟨by omega,fun i h=>absurd h (Nat.not_lt_zero i)⟩ (lk [0,1,2,3,4,5,6,7,8,9] []) ?_;apply Y 0xa1e;intro k hk6 hr6;apply Zu 0xe91b658<;>intro
 ·apply Y 0xfca3ed3e6d589;refine sq (ae (k:=k) rfl rfl rfl rfl rfl rfl rfl oe (Src.r 4 rfl) ox) ?_;apply Y 0xfc50ea0ebae;refine sq (ae (k:=k) rfl rfl rfl rfl rfl rfl rfl oe (Src.r 8 rfl) ox) ?_;apply Zu 0x5d80e924f<;>intro hc83
  ·apply Y 0x8bdc70e;refine ⟨congrArg Value.bool (Eq.symm (decide_eq_false fun h=>?_)),rfl,rfl⟩;subst h
   exact hc83 rfl
  apply Y 0x7a1f8a5a;refine ⟨by omega,fun i hi=>?_⟩
  by_cases hik:i<k
  ·exact hr6 i hik
  obtain rfl:i=k:=oe;exact Zm 0x18
 apply Y 0xad5a9;refine lp [0,1,2,3] [_,_,_,_] (fun k:Nat=>[(7,.int .i64 (k:Int))]) (kz [_,_,_,_,_,_,_,_,_,_]) nz (fun k=>k≤f.dead.length∧∀ i,i<k→f.dead.getD i false=g.dead.getD i false) (fun k=>f.dead.length-k) 0 ⟨by omega,fun i h=>absurd h (Nat.not_lt_zero i)⟩ (lk [0,1,2,3,4,5,6,7,8,9] []) ?_;apply Y 0xa1e;intro k hk7 hr7;apply Zu 0xe91b658<;>intro
 ·apply Y 0xfca3ed3e6d589;refine sq (ae (k:=k) rfl rfl rfl rfl rfl rfl rfl oe (Src.r 5 rfl) qw) ?_;apply Y 0xfc50ea0e824f;refine sq (ae (k:=k) rfl rfl rfl rfl rfl rfl rfl oe (Src.r 9 rfl) qw) ?_;refine sq (Ev.load rfl rfl rfl (Src.r 9 rfl) (kM oe)) ?_;refine sq (Bq rfl rfl rfl rfl) ?_;apply Zu 0x1a52e<;>intro hc101
  ·skip;apply Y 0x8bdc70e;refine ⟨congrArg Value.bool (Eq.symm (decide_eq_false fun h=>?_)),rfl,rfl⟩;subst h
   simp at hc101
  skip;apply Y 0x7a1f8a5a;refine ⟨by omega,fun i hi=>?_⟩
  by_cases hik:i<k
  ·exact hr7 i hik
  obtain rfl:i=k:=oe
  simpa [-List.getD_eq_getElem?_getD] using hc101
 apply Y 0xd9c9a9;refine ⟨congrArg Value.bool (Eq.symm (decide_eq_true ?_)),rfl,rfl⟩
 exact Bi oe oe oe oe oe (fun i hi=>hr5 i oe) (fun i hi=>hr6 i oe) (fun i hi=>hr7 i oe)
theorem FV (x y:Fo)(XA YA:Option Addr)(xc yc:Nat)(hx:x.data.length≤9223372036854775807)(hy:y.data.length≤9223372036854775807):
    Ctr X 50 [.agg (List.toArray [.int .i64 x.kind,.int .i64 x.sec,.int .i64 x.at_,.slice XA x.data.length xc]),.agg (List.toArray [.int .i64 y.kind,.int .i64 y.sec,.int .i64 y.at_,.slice YA y.data.length yc])] [Rd XA (U8 x.data),Rd YA (U8 y.data)] [] (fun v R' H'=>v=.bool (decide (x=y))∧R'=[]∧H'=[]):=by
 refine co Tryz.func50 ?_;intro β;apply Y 0x4a;intro A2;apply Y 0x2b;intro A3;apply Y 0x48f81b7cdb49;refine L.bool 10 rfl (imp fA ?_) (imp fz ?_)<;>intro hg10
 ·apply Y 0xb841c61e440e4;refine L.bool 17 rfl (imp fA ?_) (imp fz ?_)<;>intro hg17
  ·apply Y 0xb841c61e440e4;refine L.bool 24 rfl (imp fA ?_) (imp fz ?_)<;>intro hg24
   ·apply Y 0x41c61e440e4;refine al (kY _ _ _ _ _ _ hx hy) ?_;apply Y 0x4dd938a8
    exact Fo.beq hg10 hg17 hg24
   apply Y 0x4dd9381d
   exact (decide_eq_false fun h=>hg24 ob7).symm
  exact Zm 0xfc2f4dd938cdea1d
 exact Zm 0xec2f4dd938cdeacdea1d
theorem u7 (f:Fl)(a:Fa)(ok:f.Ok)(hh:a.hs.length=f.data.length):
    Ctr X 28 [flV f a] (flR f a) [] (fun v R' H'=>∃ b:Fa,v=flV f b∧R'=[]∧H'=flO f b∧b.hs.length=f.data.length):=by
 obtain ⟨os1,os2,on1,on2,owl,odl,orows,ol1,ol2,owear⟩:=ok;refine co Tryz.func28 ?_;intro β;apply Y 0x4a;intro A1;apply Y 0x98;intro A2;apply Y 0xdb7b;refine C.join (fun q:Option Addr×Option Addr×Nat×Option Addr×Nat=>[(0,flV f a),(1,ag A1 0),(2,ag A2 0),(3,ag q.1 0)]) (fun q:Option Addr×Option Addr×Nat×Option Addr×Nat=>[Rd A1 (flL f a),Rd a.D (ay a.hs (B8 f.data)),KidsR a.hs (B8 f.data),Rd a.W (I64 f.wear),Rd a.E (Bs f.dead)]) (fun q:Option Addr×Option Addr×Nat×Option Addr×Nat=>[Own 34 5 A2 1 1 [.int .i64 0,.slice none 0 0,.slice none 0 0,.int .i64 0,.slice none 0 0],Own 34 5 q.1 1 1 [.int .i64 (f.size:Int),.slice none 0 0,.slice q.2.1 f.wear.length q.2.2.1,.int .i64 f.limit,.slice q.2.2.2.1 f.dead.length q.2.2.2.2],Own 3 1 q.2.1 f.wear.length q.2.2.1 (I64 f.wear),Own 4 1 q.2.2.2.1 f.dead.length q.2.2.2.2 (Bs f.dead)]) (fun q:Option Addr×Option Addr×Nat×Option Addr×Nat=>True) ?_ ?_
 ·refine av [_,_,_,_,_] (Hq [0,1,2,3,4] rfl) ?_;apply Y 0x7c1f501ff70fd70fa70f6fe;refine mq 9 rfl (faR 0) ?_;refine mq 10 rfl (ldR 0) ?_;refine LM.alt [4,8,13] oa ob hcx ⟨⟨_,rfl,?_⟩,⟨_,rfl,?_⟩,⟨_,rfl,?_⟩,trivial⟩
  ·apply Y 0x3b;intro A9;apply Y 0x3;refine LM.alt [7,8,13] oa ob hcx ⟨⟨_,rfl,?_⟩,⟨_,rfl,?_⟩,⟨_,rfl,?_⟩,trivial⟩
   ·apply Y 0x960f;intro A12 cc12;apply Y 0x3;refine LM.alt [8,13] oa ob hcx ⟨⟨_,rfl,?_⟩,⟨_,rfl,?_⟩,trivial⟩
    ·apply Y 0x3b;intro A13;apply Zu 0x391f3
     ·apply Y 0x330f;intro A16 cc16;apply Y 0x98a5e101f3;intro A3;exact Zm 0xf60fcc95e42e69
     apply Y 0x98;intro A3;apply Y 0x330fb4e3;intro A16 cc16;exact Zm 0xf60fcc95e42e69fae3e3
    apply Y 0x98;intro A3;apply Y 0x3b54e3;intro A13;apply Y 0xa60fb4e3;intro A16 cc16;exact Zm 0xd91fcc32e42e69fae3e3
   ·apply Y 0x3b;intro A13;apply Zu 0xb23f3
    ·apply Y 0x960f;intro A12 cc12;apply Zu 0x391f3
     ·apply Y 0x330f;intro A16 cc16;apply Y 0x98a5e101f3;intro A3;exact Zm 0xf60fcc95e42e69
     apply Y 0x98;intro A3;apply Y 0x330fb4e3;intro A16 cc16;exact Zm 0xf60fcc95e42e69fae3e3
    apply Y 0x98;intro A3;apply Y 0x960f34e3;intro A12 cc12;apply Y 0x330fb4e3;intro A16 cc16;exact Zm 0xf60fcc95e42e69fae3e3
   apply Y 0x98;intro A3;apply Zu 0xc23f3
   ·apply Y 0x960f;intro A12 cc12;apply Y 0x3b54e3;intro A13;apply Y 0xa60fb4e3;intro A16 cc16;exact Zm 0xd91fcc32e42e69fae3e3
   apply Y 0x3b;intro A13;apply Y 0x960f34e3;intro A12 cc12;apply Y 0xa60fb4e3;intro A16 cc16;exact Zm 0xd91fcc32e42e69fae3e3
  ·apply Y 0x3b;intro A13;apply Y 0x3;refine LM.alt [4,13] oa ob hcx ⟨⟨_,rfl,?_⟩,⟨_,rfl,?_⟩,trivial⟩
   ·apply Y 0x3b;intro A9;apply Zu 0xb23f3
    ·apply Y 0xbd0f;intro A12 cc12;apply Zu 0x391f3
     ·apply Y 0xad0f;intro A16 cc16;apply Y 0x98a5e101f3;intro A3;exact Zm 0xe91fcc95e42e69
     apply Y 0x98;intro A3;apply Y 0xad0fb4e3;intro A16 cc16;exact Zm 0xe91fcc95e42e69fae3e3
    apply Y 0x98;intro A3;apply Y 0xbd0f34e3;intro A12 cc12;apply Y 0xad0fb4e3;intro A16 cc16;exact Zm 0xe91fcc95e42e69fae3e3
   apply Y 0x98;intro A3;apply Y 0x3bd9e3;intro A9;apply Y 0x103f34e3;intro A12 cc12;apply Y 0xad0fb4e3;intro A16 cc16;apply Y 0xcc32e42e69fae3e3;refine aR ((A3,A12,cc12,A16,cc16)) Oz (by exact lk [0,1,2,3,4] [0,2,3,1] (hh:=⟨rfl,oB,oB,oB,trivial⟩))
  apply Y 0x98;intro A3;apply Y 0x3;refine LM.alt [4,8] oa ob hcx ⟨⟨_,rfl,?_⟩,⟨_,rfl,?_⟩,trivial⟩
  ·apply Y 0x3b;intro A9;apply Zu 0xc23f3
   ·apply Y 0xbd0f;intro A12 cc12;apply Y 0x3b54e3;intro A13;apply Y 0xa60fb4e3;intro A16 cc16;exact Zm 0x363fcc6b42e69fae3e3
   apply Y 0x3b;intro A13;apply Y 0xbd0f34e3;intro A12 cc12;apply Y 0xa60fb4e3;intro A16 cc16;exact Zm 0x363fcc6b42e69fae3e3
  apply Y 0x3b;intro A13;apply Y 0x3bd9e3;intro A9;apply Y 0x103f34e3;intro A12 cc12;apply Y 0x330fb4e3;intro A16 cc16;apply Y 0xcc6b42e69fae3e3;refine aR ((A3,A12,cc12,A16,cc16)) Oz (by exact lk [0,1,2,3,4] [0,1,3,2] (hh:=⟨rfl,oB,oB,oB,trivial⟩))
 rintro ⟨A3,A12,c12,A16,c16⟩ _;apply Y 0xad56a84e;refine C.nil_own 24 1 ?_;refine C.kids0 5 ?_;refine lp [0,1,2,3] [_,_,_,_] (fun q:Nat×Option Addr×Nat×List Hd=>[(4,.int .i64 (q.1:Int))]) (kz [_,_,_,_,_]) (fun q=>[Own 34 5 A2 1 1 [.int .i64 0,.slice none 0 0,.slice none 0 0,.int .i64 0,.slice none 0 0],Own 34 5 A3 1 1 [.int .i64 (f.size:Int),.slice q.2.1 q.1 q.2.2.1,.slice A12 f.wear.length c12,.int .i64 f.limit,.slice A16 f.dead.length c16],Own 3 1 A12 f.wear.length c12 (I64 f.wear),Own 4 1 A16 f.dead.length c16 (Bs f.dead),Own 24 1 q.2.1 q.1 q.2.2.1 (ay q.2.2.2 (B8 (f.data.take q.1))),au 5 q.2.2.2 (B8 (f.data.take q.1))]) (fun q=>q.1≤f.data.length∧q.2.2.2.length=q.1) (fun q=>f.data.length-q.1) (0,none,0,[]) ⟨by simp,rfl⟩ (lk [0,1,2,3,4] [0,1,2,3,4,5]) ?_;apply Y 0x920f;intro k D cD hs hk hl
 dsimp only at hk hl ⊢;apply Zu 0xe9f8658<;>intro
 ·apply Y 0xd41f89;intro hrow;refine av [_,_,_,_,_,_] ⟨Has.r 0 rfl,Has.r 1 rfl,Has.r 2 rfl,Has.r 3 rfl,Has.r 4 rfl,Has.o 1 rfl,trivial⟩ ?_;refine mq 0 rfl (faR 5) ?_;refine mq 1 rfl (ldR 5) ?_;apply Y 0x36e240ffde;refine mq 6 rfl (ae (k:=k) rfl rfl rfl rfl rfl rfl rfl oe (Src.r 1 rfl) ow) ?_;refine mq 7 rfl (Ev.load rfl rfl rfl (Src.r 1 rfl) (aK hh oe)) ?_;apply Y 0x3bb9e;intro A27;apply Y 0x54e3;refine L.append (j:=6) rfl rfl rfl rfl ob rfl rfl rfl rfl ((Src.kid 2 rfl oC (k) oZ).cast (aW _)) qE (bN _) oe oJ rfl (fun A33 cc33=>?_);apply Y 0x3bf6e3;intro A34;apply Y 0xc6e69;refine L.append (j:=4) rfl rfl rfl rfl ob rfl rfl rfl rfl (Src.o 7 rfl) rfl (by intro v hv;simp at hv;subst hv;rfl) oe Qj rfl (fun A35 cc35=>?_);apply Y 0x8acccbe48e391e86e3;refine QE.absorb 5 6 rfl rfl [0,1,2,3,4,7] ob ?_;apply Y 0xd41f;intro hrow;refine QE.round (i:=(k,D,cD,hs)) ((k+1,A35,cc35,hs++[(A33,cc33)])) (by exact ⟨by dsimp only;omega,by simp [hl]⟩) ou (by exact lk [0,1,2,3,4] [1,2,3,4,5,0] (hh:=⟨rfl,rfl,rfl,rfl,(congrArg some (ax rfl (by rw [aB f.data [] k oe,← nM oP,Nat.zero_add]))),(congrArg some (by rw [aB f.data [] k oe,← BD];rfl)),trivial⟩))
 apply Y 0xd89bf4e7a9;refine qrt [] [4,5,2,3] [_] rfl ⟨⟨_,_,0,_,rfl,rfl,Src.o 0 rfl,.inl ⟨rfl,by decide,_,rfl,rfl,rfl⟩⟩,trivial⟩ ?_;obtain rfl:f.data.length=k:=oe;apply Y 0xb6e;exact ⟨⟨D,cD,hs,A12,c12,A16,c16⟩,rfl,rfl,rfl,hl⟩
theorem AP (f:Fl)(a:Fa)(ok:f.Ok)(hh:a.hs.length=f.data.length)(x:Fo)(XA:Option Addr)(xc:Nat)(hxl:x.data.length≤9223372036854775807)(hE:aF f x=0):
    Ctr X 52 [flV f a,.agg (List.toArray [.int .i64 x.kind,.int .i64 x.sec,.int .i64 x.at_,.slice XA x.data.length xc])] (flR f a++[Rd XA (U8 x.data)]) [] (fun v R' H'=>∃ A c,v=.slice A f.size c∧R'=[]∧H'=[Own 5 1 A f.size c (U8 (fH f x))]):=by
 obtain ⟨os1,os2,on1,on2,owl,odl,orows,ol1,ol2,owear⟩:=ok;apply Y 0xfb2f;intro q1 q2 q3 q4 q5 q6;apply Y 0xe41f;intro hrow;refine co Tryz.func52 ?_;intro β;apply Y 0x4a;intro A2;apply Y 0x2b;intro A3;apply Zu 0xec11b7c92e549<;>intro hc9
 ·apply Y 0x71e470ff87;intro A12;apply Y 0x11e591;exact ⟨A12,f.size,rfl,rfl,by rw [D2 hc9];rfl⟩
 apply Y 0x3b3c;intro A13;apply Y 0x610f3e3f1bf8;refine L.append (j:=0) rfl rfl rfl rfl ob rfl rfl rfl rfl ((Src.kid 3 rfl oC (x.sec.toNat) oZ).cast (aW _)) qE (bN _) oe oJ rfl (fun A20 cc20=>?_);apply Y 0xad49;have hk2:x.kind=2:=oe;have hk2b:=q4 hk2;refine lp [] [] (fun k:Nat=>[(2,ag A2 0),(3,ag A3 0),(5,.slice A20 (f.data.getD x.sec.toNat []).length cc20),(6,.int .i64 (k:Int))]) (kz [_,_,_,_,_,_,_]) (fun k=>[Own 5 1 A20 (f.data.getD x.sec.toNat []).length cc20 (U8 (wL (f.data.getD x.sec.toNat []) x.data x.at_.toNat k))]) (fun k=>k≤x.data.length) (fun k=>x.data.length-k) 0 oe (by exact lk [0,1,2,3,4,5,6] [0] ⟨rfl,rfl,oB,rfl,trivial⟩ (hh:=⟨(by rw [AQ];simp only [Nat.zero_add];rfl),trivial⟩)) ?_;intro k hk;apply Zu 0xe91b658<;>intro
 ·apply Y 0x89;refine av [_,_,_,_,_,_,_,_] ⟨Has.r 0 rfl,Has.r 1 rfl,Has.r 2 rfl,Has.r 3 rfl,Has.r 4 rfl,Has.r 5 rfl,Has.r 6 rfl,Has.o 0 rfl,trivial⟩ ?_;apply Y 0xede6ce4beb3e;refine mq 4 rfl (Ev.add rfl rfl oe oe) ?_;refine mq 5 rfl (ae (k:=x.at_.toNat+k) rfl rfl rfl rfl rfl rfl oe oe (Src.r 7 rfl) (by rw [aG,cm];omega)) ?_;refine mq 6 rfl (Ev.load rfl rfl rfl (Src.r 7 rfl) (bn (by rw [cm];omega))) ?_;refine mq 7 rfl (faR 1) ?_;refine mq 8 rfl (ldR 1) ?_;apply Y 0x57e36f6e;refine sp (ae (k:=k) rfl rfl rfl rfl rfl rfl rfl oe (Src.r 6 rfl) oI) ?_;apply Y 0xb4e3;refine sp (Ev.load rfl rfl rfl (Src.r 6 rfl) (bn oe)) ?_;apply Y 0xc8e3440f48e69;refine sp (ae (k:=x.at_.toNat+k) rfl rfl rfl rfl rfl rfl oe oe (Src.o 0 rfl) (by rw [aG,cm];omega)) ?_;apply Y 0x42e3;refine L.store (j:=0) rfl rfl rfl rfl rfl rfl rfl (by exact bn (by rw [cm];omega)) ?_;apply Y 0x8acc;refine QE.round (k+1) oe oe (by exact lk [0,1,2,3,4,5,6] [0] (hh:=⟨(by simp only [List.set_cons_zero,List.getElem?_cons_zero];rw [im,D4 oe,D3 oe]),trivial⟩))
 apply Y 0x11ed8c8a9;obtain rfl:k=x.data.length:=oe;rw [D5 oe oe hrow,hrow];exact ⟨A20,cc20,rfl,rfl,rfl⟩
theorem DF {xs ys:List Value}(h:xs.length≤ys.length):xs.take 0++ys++xs.drop (0+ys.length)=ys:=by
 rw [List.take_zero,List.nil_append,Nat.zero_add,List.drop_eq_nil_of_le h,List.append_nil]
theorem mU (A:Option Addr)(n c:Nat)(xs:List Value)(hx:∀ v∈xs,v.oneCell'=true)(hl:xs.length=n)(hn:n≤1000000):
    Ctr X 179 [.slice A n c] [Rd A xs] [] (fun v R' H'=>∃ A' c',v=.slice A' n c'∧R'=[]∧H'=[Own 5 1 A' n c' xs]):=by
 refine co Tryz.func179 ?_;intro β;apply Zu 0x1a88880f658c9<;>intro hc4
 ·apply Y 0x17e;obtain rfl:A=none:=obU;apply Y 0x8f0f;intro h0;subst h0;subst hl;exact Zm 0x24e11e63e
 apply Y 0x3b3c;intro A5;apply Y 0xef2f6;intro A7 cc7;exact Zm 0xec0f11ed81
theorem DM (A:Option Addr)(n c:Nat)(xs:List Value)(hx:∀ v∈xs,v.oneCell'=true)(hl:xs.length=n)(hn:n≤1000000):
    Ctr X 119 [.slice A n c] [Rd A xs] [] (fun v R' H'=>∃ A' c',v=.slice A' n c'∧R'=[]∧H'=[Own 24 1 A' n c' xs]):=by
 refine co Tryz.func119 ?_;intro β;apply Zu 0x1a88880f658c9<;>intro hc4
 ·apply Y 0x17e;obtain rfl:A=none:=obU;apply Y 0x8f0f;intro h0;subst h0;subst hl;refine QE.nil_own 24 1 ?_;exact Zm 0x24e11e
 apply Y 0x3b3c;intro A5;apply Y 0x6;refine L.append (j:=0) rfl rfl rfl rfl ob rfl rfl rfl rfl (Src.r 0 rfl) QT hx oe Qj rfl (fun A7 cc7=>?_);exact Zm 0xec0f11ed81
theorem DL (A:Option Addr)(n c:Nat)(xs:List Value)(hx:∀ v∈xs,v.oneCell'=true)(hl:xs.length=n)(hn:n≤1000000):
    Ctr X 120 [.slice A n c] [Rd A xs] [] (fun v R' H'=>∃ A' c',v=.slice A' n c'∧R'=[]∧H'=[Own 3 1 A' n c' xs]):=by
 refine co Tryz.func120 ?_;intro β;apply Zu 0x1a88880f658c9<;>intro hc4
 ·apply Y 0x17e;obtain rfl:A=none:=obU;apply Y 0x8f0f;intro h0;subst h0;subst hl;refine QE.nil_own 3 1 ?_;exact Zm 0x24e11e
 apply Y 0x3b3c;intro A5;apply Y 0x6;refine L.append (j:=0) rfl rfl rfl rfl ob rfl rfl rfl rfl (Src.r 0 rfl) QT hx oe oY rfl (fun A7 cc7=>?_);exact Zm 0xec0f11ed81
theorem DN (A:Option Addr)(n c:Nat)(xs:List Value)(hx:∀ v∈xs,v.oneCell'=true)(hl:xs.length=n)(hn:n≤1000000):
    Ctr X 121 [.slice A n c] [Rd A xs] [] (fun v R' H'=>∃ A' c',v=.slice A' n c'∧R'=[]∧H'=[Own 4 1 A' n c' xs]):=by
 refine co Tryz.func121 ?_;intro β;apply Zu 0x1a88880f658c9<;>intro hc4
 ·apply Y 0x17e;obtain rfl:A=none:=obU;apply Y 0x8f0f;intro h0;subst h0;subst hl;refine QE.nil_own 4 1 ?_;exact Zm 0x24e11e
 apply Y 0x3b3c;intro A5;apply Y 0xef2f6;intro A7 cc7;exact Zm 0xec0f11ed81
theorem Ai (A B:Option Addr)(c d:Nat)(xs ys:List UInt8):
    Ctr X 113 [.slice A xs.length c,.slice B ys.length d] [Rd A (U8 xs),Rd B (U8 ys)] [] (fun v R' H'=>v=.bool (xs==ys)∧R'=[]∧H'=[]):=by
 refine co Tryz.func113 ?_;intro β;apply Y 0xf9c9;refine sp (vz rfl rfl rfl rfl rfl rfl rfl (Src.r 0 rfl)) ?_;apply Y 0x6;refine sp (vz rfl rfl rfl rfl rfl rfl rfl (Src.r 1 rfl)) ?_;refine sp (Eu rfl rfl) ?_;apply Y 0x4dd91
 unfold LV;rw [ByteArray.toList_mk,ByteArray.toList_mk]
theorem AO (Aw XA:Option Addr)(ws zs:List Value)(i:Int)(o:UInt8):
    Ctr X 180 [.int .i64 i,.int .u8 (o.toNat:Int)] [Rd Aw ws,Rd XA zs] [] (fun v R' H'=>v=.int .u8 255∧R'=[]∧H'=[]):=by
 refine co Tryz.func180 ?_;intro β;exact Zm 0x53ed9c9c9
theorem AN (x:Fo)(XA:Option Addr)(xc:Nat)(hk:x.kind=1∨x.kind=2)(ha:x.kind=2→0≤x.at_∧x.at_≤1000000)(hxl:x.kind=2→x.data.length≤1000000):
    Ctr X 118 [.agg (List.toArray [.int .i64 x.kind,.int .i64 x.sec,.int .i64 x.at_,.slice XA x.data.length xc])] [] [] (fun v R' H'=>∃ fid cap Aw ws,v=.func (.func fid) #[] cap∧R'=[Rd Aw ws]∧H'=[]∧(∀ (i:Nat) (o:UInt8),i≤1000000→Ctr X fid ([.int .i64 (i:Int),.int .u8 (o.toNat:Int)]++cap.toList) [Rd Aw ws,Rd XA (U8 x.data)] [] (fun v R' H'=>v=.int .u8 ((wM x i o).toNat:Int)∧R'=[]∧H'=[]))):=by
 refine co Tryz.func118 ?_;intro β;apply Y 0x4a;intro A1;apply Zu 0xec1f87c549<;>intro hc5
 ·apply Y 0xac1f26e17e;refine ⟨180,#[],none,[],rfl,rfl,rfl,fun i o hi=>?_⟩
  exact (AO _ _ _ _ i o).mono (fun v R' H' h=>⟨by rw [h.1,AR hc5];rfl,h.2⟩)
 apply Y 0xac1fd8c899;refine ⟨181,#[ag A1 0],A1,_,rfl,rfl,rfl,fun i o hi=>?_⟩
 exact D1 i o x XA A1 xc hi (ha oe).1 (ha oe).2 (hxl oe) hc5
theorem Jr (Aw XA:Option Addr)(ws zs:List Value)(i:Int):
    Ctr X 116 [.int .i64 i] [Rd Aw ws,Rd XA zs] [] (fun v R' H'=>v=.int .u8 ((255:UInt8).toNat:Int)∧R'=[]∧H'=[]):=by
 refine co Tryz.func116 ?_;intro β;exact Zm 0x53ed9c9c9
end Go.Proofs.YtbpddeiogcgegaaGreat
