/-
  Part of a proof.
-/
import Derived.Test.YtbpddeiogcgegaaGreatUTf
set_option maxHeartbeats 0
set_option maxRecDepth 4000
set_option linter.all false
namespace Go.Proofs.YtbpddeiogcgegaaGreat
open Go.Sl
theorem xu (x y:UInt8)(k n:Nat)(h:k<n):(List.replicate k x++List.replicate (n-k) y).set k x=List.replicate (k+1) x++List.replicate (n-(k+1)) y:=by
 obtain ⟨m,rfl⟩:∃ m,n=k+1+m:=⟨n-(k+1),by omega⟩;rw [show k+1+m-k=m+1 from by omega,show k+1+m-(k+1)=m from by omega,List.set_append_right _ _ oO,List.replicate_succ (n:=m)]
 simp [List.replicate_succ']
theorem PK (a lo hi:Int):
    Ctr X 99 [.int .i64 a,.int .i64 lo,.int .i64 hi] [] [] (fun v R' H'=>v=.bool (decide (lo≤a)&&decide (a≤hi))∧R'=[]∧H'=[]):=by
 refine co Tryz.func99 ?_;intro β;apply Zu 0x8c0f281c1a<;>intro hg10
 ·apply Y 0x84ed9d87d
  simp [tup,hg10]
  try omega
 apply Y 0x84ed938ca
 simp [tup,hg10]
 try omega
theorem rY (n:Nat)(hn:n≤1000000):
    Ctr X 31 [.int .i64 (n:Int)] [] [] (fun v R' H'=>∃ A,v=.slice A n n∧R'=[]∧H'=[Own 5 1 A n n (U8 (List.replicate n 255))]):=by
 refine co Tryz.func31 ?_;intro β;apply Y 0xb91a;refine kU rfl rfl rfl rfl rfl rfl rfl rfl rfl oaR oe rfl (fun A6=>?_);apply Y 0xcd49;refine lp [0,3] [_,_] (fun k:Nat=>[(4,.int .i64 (k:Int))]) nz (fun k=>[Own 5 1 A6 n n (U8 (List.replicate k 255++List.replicate (n-k) 0))]) (fun k=>k≤n) (fun k=>n-k) 0 oe (by exact lk [] [0] (hh:=⟨(by simp [U8,ti5]),trivial⟩)) ?_;intro k hk;apply Zu 0x79d858<;>intro
 ·apply Y 0xac99;refine sp (ae (k:=k) rfl rfl rfl rfl rfl rfl rfl oe (Src.o 0 rfl) (by rw [aJ];simp;omega)) ?_;refine L.store (j:=0) (v:=.int .u8 ((255:UInt8).toNat:Int)) rfl rfl rfl rfl rfl rfl rfl (bp O8) ?_;apply Y 0x9a60e;refine QE.round (k+1) oe oe (by exact lk [] [0] (hh:=⟨(by simp only [List.set_cons_zero,List.getElem?_cons_zero];rw [jZ];congr 3;exact xu _ _ k n oe),trivial⟩))
 apply Y 0x91ee8c8a9;obtain rfl:k=n:=oe;refine ⟨A6,rfl,rfl,?_⟩
 simp [sel]
def flO (f:Fl)(a:Fa):List Pr:=[Own 24 1 a.D f.data.length a.cD (aC a.hs (B8 f.data)),aw 5 a.hs (B8 f.data),Own 3 1 a.W f.wear.length a.cW (I64 f.wear),Own 4 1 a.E f.dead.length a.cE (Bs f.dead)]
def flR (f:Fl)(a:Fa):List Pr:=[Rd a.D (aC a.hs (B8 f.data)),aS a.hs (B8 f.data),Rd a.W (I64 f.wear),Rd a.E (Bs f.dead)]
def fl0 (s m:Nat)(l:Int):Fl:=⟨s,List.replicate m (List.replicate s 255),List.replicate m 0,l,List.replicate m false⟩
def okR (z:Int)(f:Fl)(i:Nat):Bool:=decide (((f.data.getD i []).length:Int)=z∧0≤f.wear.getD i 0∧f.wear.getD i 0≤f.limit)
def okB (z:Int)(f:Fl):Bool:=decide (1≤z∧z≤4096∧1≤f.limit∧f.limit≤100000∧1≤f.data.length∧f.data.length≤64∧f.wear.length=f.data.length∧f.dead.length=f.data.length)&&(List.range f.data.length).all (okR z f)
theorem Io {z:Int}{f:Fl}(h:¬ (1≤z∧z≤4096∧1≤f.limit∧f.limit≤100000∧1≤f.data.length∧f.data.length≤64∧f.wear.length=f.data.length∧f.dead.length=f.data.length)):okB z f=false:=by unfold okB;rw [decide_eq_false h];rfl
theorem x9 {z:Int}{f:Fl}{k:Nat}(hk:k<f.data.length)(h:okR z f k=false):okB z f=false:=by
 unfold okB;rw [Bool.and_eq_false_iff];refine .inr (List.all_eq_false.2 ⟨k,by simpa using hk,by simp [h]⟩)
theorem rp {z:Int}{f:Fl}(h:1≤z∧z≤4096∧1≤f.limit∧f.limit≤100000∧1≤f.data.length∧f.data.length≤64∧f.wear.length=f.data.length∧f.dead.length=f.data.length)(hr:∀ i,i<f.data.length→okR z f i=true):okB z f=true:=by
 unfold okB;rw [decide_eq_true h,Bool.true_and,List.all_eq_true]
 exact fun i hi=>hr i (by simpa using hi)
theorem x8 {z:Int}{f:Fl}{k:Nat}(h1:((f.data.getD k []).length:Int)=z)(h2:0≤f.wear.getD k 0∧f.wear.getD k 0≤f.limit):okR z f k=true:=decide_eq_true ⟨h1,h2⟩
theorem D3 {z:Int}{f:Fl}{k:Nat}(h:¬ (((f.data.getD k []).length:Int)=z∧0≤f.wear.getD k 0∧f.wear.getD k 0≤f.limit)):okR z f k=false:=decide_eq_false h
theorem v7 (z:Int)(f:Fl)(a:Fa)(hh:a.hs.length=f.data.length)(hn:f.data.length≤9223372036854775807):
    Ctr X 62 [.agg (List.toArray [.int .i64 z,.slice a.D f.data.length a.cD,.slice a.W f.wear.length a.cW,.int .i64 f.limit,.slice a.E f.dead.length a.cE])] (flR f a) [] (fun v R' H'=>v=.bool (okB z f)∧R'=[]∧H'=[]):=by
 refine co Tryz.func62 ?_;intro β;apply Y 0x6a;intro A1;apply Y 0x288879ef85838f8db49;refine L.bool 12 rfl ?_ ?_<;>intro hg12
 ·have q12:¬(1≤z∧z≤4096):=by simp at hg12;omega
  apply Y 0x1ea28ea28ca2839;refine C.cond rfl (fun _=>?_) (fun h=>by cases h);exact Zm 0xf8e85e6c
 have q12:1≤z∧z≤4096:=by simp at hg12;omega
 apply Y 0xb848879e4eb;refine L.bool 18 rfl ?_ ?_<;>intro hg18
 ·have q18:¬(1≤f.limit∧f.limit≤100000):=by simp at hg18;omega
  apply Y 0x1ea28ea28ca;refine C.cond rfl (fun _=>?_) (fun h=>by cases h);exact Zm 0xf8e85e6c
 have q18:1≤f.limit∧f.limit≤100000:=by simp at hg18;omega
 apply Y 0xb848879ef9;refine L.bool 23 rfl ?_ ?_<;>intro hg23
 ·have q23:¬(1≤(f.data.length:Int)∧(f.data.length:Int)≤64):=by simp at hg23;omega
  apply Y 0x1ea28ea;refine C.cond rfl (fun _=>?_) (fun h=>by cases h);exact Zm 0xf8e85e6c
 have q23:1≤(f.data.length:Int)∧(f.data.length:Int)≤64:=by simp at hg23;omega
 apply Y 0xb87deb;refine L.bool 30 rfl (imp mC ?_) (imp mD ?_)<;>intro
 ·apply Y 0x1ea;refine C.cond rfl (fun _=>?_) (fun h=>by cases h);exact Zm 0xf8e85e6c
 apply Zu 0xdd387deb<;>intro
 ·exact Zm 0xf8e85e6c
 apply Y 0xcdbd;refine lp [0,1,3] [_,_,_] (fun k:Nat=>[(4,.int .i64 (k:Int))]) (kz [_,_,_,_,_]) nz (fun k=>k≤f.data.length∧∀ i,i<k→okR z f i=true) (fun k=>f.data.length-k) 0 ⟨by omega,fun i h=>absurd h (Nat.not_lt_zero i)⟩ (lk [0,1,2,3,4] []) ?_;apply Y 0xb1e;intro k hk hr;apply Zu 0x79d858<;>intro
 ·apply Y 0x6d90e31ead599;refine sq (ae (k:=k) rfl rfl rfl rfl rfl rfl rfl oe (Src.r 1 rfl) ow) ?_;apply Zu 0xef2fc990e31e6dea3f<;>intro
  ·apply Y 0x40ec4e9b9b;refine C.cond rfl (fun _=>?_) (fun h=>by cases h);exact Zm 0xab0f85e4b3da0e
  have q51:0=0:=rfl;apply Y 0x690e631e63d1f6ec1f6dc90e631e6;refine LQ.call (.bool _) (PK _ _ _) (fun _ _ _ h=>h.1) rfl trivial rfl ?_;apply Zu 0x3a32ec96<;>intro hc61
  ·apply Y 0x85e4b3da0e
   exact x9 (k:=k) oe (D3 (by simp [-List.getD_eq_getElem?_getD] at hc61;omega))
  apply Y 0x513f9a7a;refine ⟨by omega,fun i hi=>?_⟩
  by_cases hik:i<k
  ·exact hr i hik
  obtain rfl:i=k:=oe
  exact x8 oe (by simp [-List.getD_eq_getElem?_getD] at hc61;omega)
 apply Y 0x85ed91aa9
 exact rp oe (fun i hi=>hr i oe)
theorem EE (z:Int)(f:Fl)(a:Fa)(hh:a.hs.length=f.data.length)(hn:f.data.length≤9223372036854775807):
    Ctr X 58 [.agg (List.toArray [.int .i64 z,.slice a.D f.data.length a.cD,.slice a.W f.wear.length a.cW,.int .i64 f.limit,.slice a.E f.dead.length a.cE])] (flR f a) [] (fun v R' H'=>v=.bool (okB z f)∧R'=[]∧H'=[]):=by
 refine co Tryz.func58 ?_;intro β;apply Y 0x6a;intro A1;apply Y 0x28f85838f8db49;refine L.bool 12 rfl (imp of_decide_eq_true ?_) (imp of_decide_eq_false ?_)<;>intro
 ·apply Y 0x1ea28ea28fd28fd28ca28ca28ca;refine C.cond rfl (fun _=>?_) (fun h=>by cases h);exact Zm 0xf8e85e6c
 apply Zu 0x6d2fb84eb<;>intro
 ·apply Y 0x1ea28ea28fd28fd28ca28ca;refine C.cond rfl (fun _=>?_) (fun h=>by cases h);exact Zm 0xf8e85e6c
 apply Zu 0x9c0fb84eb<;>intro
 ·apply Y 0x1ea28ea28fd28fd28ca;refine C.cond rfl (fun _=>?_) (fun h=>by cases h);exact Zm 0xf8e85e6c
 apply Zu 0xdd2fb84eb<;>intro
 ·apply Y 0x1ea28ea28fd28fd;refine C.cond rfl (fun _=>?_) (fun h=>by cases h);exact Zm 0xf8e85e6c
 apply Zu 0xc61fb8f9<;>intro
 ·apply Y 0x1ea28ea28fd;refine C.cond rfl (fun _=>?_) (fun h=>by cases h);exact Zm 0xf8e85e6c
 apply Zu 0xa50fb8f9<;>intro
 ·apply Y 0x1ea28ea;refine C.cond rfl (fun _=>?_) (fun h=>by cases h);exact Zm 0xf8e85e6c
 apply Y 0xb87deb;refine L.bool 42 rfl (imp mC ?_) (imp mD ?_)<;>intro
 ·apply Y 0x1ea;refine C.cond rfl (fun _=>?_) (fun h=>by cases h);exact Zm 0xf8e85e6c
 apply Zu 0xdd387deb<;>intro
 ·exact Zm 0xf8e85e6c
 apply Y 0xaa38f85859;refine lp [1,3,50,51] [_,_,_,_] (fun k:Nat=>[(52,.int .i64 (k:Int))]) (kz [_,_,_,_,_]) nz (fun k=>k≤f.data.length∧∀ i,i<k→okR z f i=true) (fun k=>f.data.length-k) 0 ⟨by omega,fun i h=>absurd h (Nat.not_lt_zero i)⟩ (lk [0,1,2,3,4] []) ?_;apply Y 0xb1e;intro k hk hr;apply Zu 0x7930e<;>intro
 ·apply Y 0xb999;refine sp (ae (k:=k) rfl rfl rfl rfl rfl rfl rfl oe (Src.r 1 rfl) ow) ?_;apply Y 0xc990e31ec9ad5382fe;refine LQ.bool 62 rfl (imp mC ?_) (imp mD ?_)<;>intro
  ·apply Y 0x40e9b9bc9d9e9b;refine C.cond rfl (fun _=>?_) (fun h=>by cases h);exact Zm 0xab0f85e4b3da0e
  apply Y 0x6dc963d1f6ec1f6dc90e631e6;refine LQ.bool 70 rfl (imp of_decide_eq_true ?_) (imp of_decide_eq_false ?_)<;>intro
  ·apply Y 0x40e9b9b;refine C.cond rfl (fun _=>?_) (fun h=>by cases h);exact Zm 0xab0f85e4b3da0e
  apply Zu 0x7932ec9690e631e63d1f6ec1f6dc90e631e6<;>intro
  ·exact Zm 0xab0f85e4b3da0e
  apply Y 0x513f20efb7a;refine ⟨by omega,fun i hi=>?_⟩
  by_cases hik:i<k
  ·exact hr i hik
  obtain rfl:i=k:=oe
  exact x8 oe oe
 apply Y 0x85ed91aa9
 exact rp oe (fun i hi=>hr i oe)
theorem ph (f:Fl)(a:Fa)(ok:f.Ok)(_hh:a.hs.length=f.data.length)(x:Fo)(XA:Option Addr)(xc:Nat)(_hxl:x.data.length≤9223372036854775807):
    Ctr X 51 [flV f a,.agg (List.toArray [.int .i64 x.kind,.int .i64 x.sec,.int .i64 x.at_,.slice XA x.data.length xc])] (flR f a++[Rd XA (U8 x.data)]) [] (fun v R' H'=>v=.int .i64 (aU f x)∧R'=[]∧H'=[]):=by
 obtain ⟨os1,os2,on1,on2,owl,odl,orows,ol1,ol2,owear⟩:=ok;refine co Tryz.func51 ?_;intro β;apply Y 0x6a;intro A2;apply Y 0x7b;intro A3;apply Y 0x283bdbb2e549;refine L.bool 8 rfl (imp mC ?_) (imp mD ?_)<;>intro
 ·apply Zu 0xdd384a1e480e4<;>intro
  ·apply Y 0x10e6c
   exact uy oe
  apply Zu 0x861f288879e61e7f83b5859<;>intro hg21
  ·have q21:¬(0≤x.sec∧x.sec≤(f.data.length:Int)-1):=by simp at hg21;omega
   apply Y 0x1fd3939393939;refine C.cond rfl (fun _=>?_) (fun h=>by cases h);exact Zm 0xc6e10e6c
  have q21:0≤x.sec∧x.sec≤(f.data.length:Int)-1:=by simp at hg21;omega
  apply Zu 0xbd2fbcbca1e480e4<;>intro
  ·apply Y 0xbcbc8879e4eba1e480e4;refine L.bool 32 rfl ?_ ?_<;>intro hg32
   ·have q32:¬(0≤x.at_∧x.at_≤(f.size:Int)):=by simp at hg32;omega
    apply Y 0x38f9ea39;refine C.cond rfl (fun _=>?_) (fun h=>by cases h);exact Zm 0xc6e10e6c
   have q32:0≤x.at_∧x.at_≤(f.size:Int):=by simp at hg32;omega
   apply Zu 0x2a7d61e4a1e480e453ef9a1e480e4<;>intro
   ·exact Zm 0xc6e10e6c
   apply Zu 0x3a98cde1fe3bf85859<;>intro hc50
   ·exact Zm 0x3b0f10e6c
   apply Zu 0xdd0fc983ec3ead5bd<;>intro
   ·apply Zu 0x4d32ec9690e631e64be64fe683e6c3e690e631e6<;>intro
    ·exact Zm 0x5b0f10e6c
    exact Zm 0x8ee10ed91a59
   apply Y 0x40ec4e9b9b;refine C.cond rfl (fun h=>by cases h) (fun _=>?_);exact Zm 0x8ee10ed91a59
  apply Y 0x384ea393939;refine C.cond rfl (fun h=>by cases h) (fun _=>?_);apply Zu 0x3a98cde1fe3bf85859<;>intro hc50
  ·exact Zm 0x3b0f10e6c
  apply Zu 0xdd0fc983ec3ead5bd<;>intro
  ·apply Zu 0x4d32ec9690e631e64be64fe683e6c3e690e631e6<;>intro
   ·exact Zm 0x5b0f10e6c
   exact Zm 0x8ee10ed91a59
  apply Y 0x40ec4e9b9b;refine C.cond rfl (fun h=>by cases h) (fun _=>?_);exact Zm 0x8ee10ed91a59
 apply Y 0x1ca;refine C.cond rfl (fun h=>by cases h) (fun _=>?_);apply Zu 0x861f288879e61e7f83b5859<;>intro hg21
 ·have q21:¬(0≤x.sec∧x.sec≤(f.data.length:Int)-1):=by simp at hg21;omega
  apply Y 0x1fd3939393939;refine C.cond rfl (fun _=>?_) (fun h=>by cases h);exact Zm 0xc6e10e6c
 have q21:0≤x.sec∧x.sec≤(f.data.length:Int)-1:=by simp at hg21;omega
 apply Zu 0xbd2fbcbca1e480e4<;>intro
 ·apply Y 0xbcbc8879e4eba1e480e4;refine L.bool 32 rfl ?_ ?_<;>intro hg32
  ·have q32:¬(0≤x.at_∧x.at_≤(f.size:Int)):=by simp at hg32;omega
   apply Y 0x38f9ea39;refine C.cond rfl (fun _=>?_) (fun h=>by cases h);exact Zm 0xc6e10e6c
  have q32:0≤x.at_∧x.at_≤(f.size:Int):=by simp at hg32;omega
  apply Zu 0x2a7d61e4a1e480e453ef9a1e480e4<;>intro
  ·exact Zm 0xc6e10e6c
  apply Zu 0x3a98cde1fe3bf85859<;>intro hc50
  ·exact Zm 0x3b0f10e6c
  apply Zu 0xdd0fc983ec3ead5bd<;>intro
  ·apply Zu 0x4d32ec9690e631e64be64fe683e6c3e690e631e6<;>intro
   ·exact Zm 0x5b0f10e6c
   exact Zm 0x8ee10ed91a59
  apply Y 0x40ec4e9b9b;refine C.cond rfl (fun h=>by cases h) (fun _=>?_);exact Zm 0x8ee10ed91a59
 apply Y 0x384ea393939;refine C.cond rfl (fun h=>by cases h) (fun _=>?_);apply Zu 0x3a98cde1fe3bf85859<;>intro hc50
 ·exact Zm 0x3b0f10e6c
 apply Zu 0xdd0fc983ec3ead5bd<;>intro
 ·apply Zu 0x4d32ec9690e631e64be64fe683e6c3e690e631e6<;>intro
  ·exact Zm 0x5b0f10e6c
  exact Zm 0x8ee10ed91a59
 apply Y 0x40ec4e9b9b;refine C.cond rfl (fun h=>by cases h) (fun _=>?_);exact Zm 0x8ee10ed91a59
theorem zF (f:Fl)(a:Fa)(ok:f.Ok)(_hh:a.hs.length=f.data.length)(x:Fo)(XA:Option Addr)(xc:Nat)(_hxl:x.data.length≤9223372036854775807):
    Ctr X 117 [flV f a,.agg (List.toArray [.int .i64 x.kind,.int .i64 x.sec,.int .i64 x.at_,.slice XA x.data.length xc])] (flR f a++[Rd XA (U8 x.data)]) [] (fun v R' H'=>v=.int .i64 (aU f x)∧R'=[]∧H'=[]):=by
 obtain ⟨os1,os2,on1,on2,owl,odl,orows,ol1,ol2,owear⟩:=ok;have hw:0≤x.sec∧x.sec<(f.data.length:Int)→f.wear.getD x.sec.toNat 0≤f.limit:=fun h=>(owear _ oe).2
 refine co Tryz.func117 ?_;intro β;apply Y 0x6a;intro A2;apply Y 0x7b;intro A3;apply Y 0xb848aa540ec983ec3e6d83ec3eadcaeb2e49;refine L.bool 16 rfl ?_ ?_<;>intro hg16
 ·replace hg16:=(Bool.not_eq_true' _).mp hg16;replace hg16:=fz hg16;apply Zu 0x3ad8f9<;>intro hc13
  ·replace hc13:=(Bool.not_eq_true' _).mp hc13;replace hc13:=fz hc13;apply Y 0x10e4ba0e
   exact uy oe
  replace hc13:=(Bool.not_eq_false' _).mp hc13;replace hc13:=fA hc13;apply Zu 0xac0f283b58<;>intro
  ·apply Y 0x38fd39;refine C.cond rfl (fun _=>?_) (fun h=>by cases h);apply Y 0x59;refine C.cond rfl (fun _=>?_) (fun h=>by cases h);exact Zm 0xc6e10e4ba0e
  apply Zu 0x79d8f9eba1e480e4<;>intro hc20
  ·apply Y 0x59;refine C.cond rfl (fun _=>?_) (fun h=>by cases h);exact Zm 0xc6e10e4ba0e
  apply Zu 0xed2fac<;>intro
  ·apply Zu 0x1e2fbcbca1e480e4<;>intro
   ·apply Y 0xd84ea39bcbcea;refine C.cond rfl (fun _=>?_) (fun h=>by cases h);exact Zm 0xc6e10e4ba0e
   apply Zu 0xd61fbcbcbceba1e480e4<;>intro
   ·apply Y 0xd84ea39;refine C.cond rfl (fun _=>?_) (fun h=>by cases h);exact Zm 0xc6e10e4ba0e
   apply Zu 0x79d8f961e4a1e480e453ef9a1e480e4<;>intro
   ·exact Zm 0xc6e10e4ba0e
   apply Zu 0x3a1cde1fe3bf848<;>intro hc56
   ·exact Zm 0x4b0f10e4ba0e
   apply Zu 0xed0fc9ad5<;>intro
   ·apply Zu 0x7940ec9690e631e64be64fe683e6c3e690e631e6<;>intro
    ·exact Zm 0x6b0f10e4ba0e
    exact Zm 0x9ee10ed91afb7a
   apply Y 0x32ec9c4e9b9b;refine C.cond rfl (fun h=>by cases h) (fun _=>?_);exact Zm 0x9ee10ed91afb7a
  apply Y 0x38ea39393939;refine C.cond rfl (fun h=>by cases h) (fun _=>?_);apply Zu 0x3a1cde1fe3bf848<;>intro hc56
  ·exact Zm 0x4b0f10e4ba0e
  apply Zu 0xed0fc9ad5<;>intro
  ·apply Zu 0x7940ec9690e631e64be64fe683e6c3e690e631e6<;>intro
   ·exact Zm 0x6b0f10e4ba0e
   exact Zm 0x9ee10ed91afb7a
  apply Y 0x32ec9c4e9b9b;refine C.cond rfl (fun h=>by cases h) (fun _=>?_);exact Zm 0x9ee10ed91afb7a
 replace hg16:=(Bool.not_eq_false' _).mp hg16;replace hg16:=fA hg16;apply Y 0x38fd;refine C.cond rfl (fun h=>by cases h) (fun _=>?_);apply Zu 0xac0f283b58<;>intro
 ·apply Y 0x38fd39;refine C.cond rfl (fun _=>?_) (fun h=>by cases h);apply Y 0x59;refine C.cond rfl (fun _=>?_) (fun h=>by cases h);exact Zm 0xc6e10e4ba0e
 apply Zu 0x79d8f9eba1e480e4<;>intro hc20
 ·apply Y 0x59;refine C.cond rfl (fun _=>?_) (fun h=>by cases h);exact Zm 0xc6e10e4ba0e
 apply Zu 0xed2fac<;>intro
 ·apply Zu 0x1e2fbcbca1e480e4<;>intro
  ·apply Y 0xd84ea39bcbcea;refine C.cond rfl (fun _=>?_) (fun h=>by cases h);exact Zm 0xc6e10e4ba0e
  apply Zu 0xd61fbcbcbceba1e480e4<;>intro
  ·apply Y 0xd84ea39;refine C.cond rfl (fun _=>?_) (fun h=>by cases h);exact Zm 0xc6e10e4ba0e
  apply Zu 0x79d8f961e4a1e480e453ef9a1e480e4<;>intro
  ·exact Zm 0xc6e10e4ba0e
  apply Zu 0x3a1cde1fe3bf848<;>intro hc56
  ·exact Zm 0x4b0f10e4ba0e
  apply Zu 0xed0fc9ad5<;>intro
  ·apply Zu 0x7940ec9690e631e64be64fe683e6c3e690e631e6<;>intro
   ·exact Zm 0x6b0f10e4ba0e
   exact Zm 0x9ee10ed91afb7a
  apply Y 0x32ec9c4e9b9b;refine C.cond rfl (fun h=>by cases h) (fun _=>?_);exact Zm 0x9ee10ed91afb7a
 apply Y 0x38ea39393939;refine C.cond rfl (fun h=>by cases h) (fun _=>?_);apply Zu 0x3a1cde1fe3bf848<;>intro hc56
 ·exact Zm 0x4b0f10e4ba0e
 apply Zu 0xed0fc9ad5<;>intro
 ·apply Zu 0x7940ec9690e631e64be64fe683e6c3e690e631e6<;>intro
  ·exact Zm 0x6b0f10e4ba0e
  exact Zm 0x9ee10ed91afb7a
 apply Y 0x32ec9c4e9b9b;refine C.cond rfl (fun h=>by cases h) (fun _=>?_);exact Zm 0x9ee10ed91afb7a
theorem m8 (A B:Option Addr)(c d:Nat)(xs ys:List UInt8)(hxs:xs.length≤9223372036854775807)(hys:ys.length≤9223372036854775807):
    Ctr X 53 [.slice A xs.length c,.slice B ys.length d] [Rd A (U8 xs),Rd B (U8 ys)] [] (fun v R' H'=>v=.bool (xs==ys)∧R'=[]∧H'=[]):=by
 refine co Tryz.func53 ?_;intro β;apply Zu 0xddd89d1a<;>intro hc10
 ·apply Y 0x84e6c
  simp [tup];intro h;subst h
  simp at hc10
 apply Y 0xcdbd;refine lp [0,1] [_,_] (fun k:Nat=>[(5,.int .i64 (k:Int))]) (kz [_,_]) nz (fun k=>k≤xs.length∧xs.take k=ys.take k) (fun k=>xs.length-k) 0 ⟨by omega,by simp⟩ (lk [0,1] []) ?_;apply Y 0xb1e;intro k hk htk;apply Zu 0x2a9d<;>intro
 ·apply Zu 0xdd40e1d1fdc1fc96ae180fc9ad599<;>intro hc25
  ·apply Y 0x84e4b3da0e
   simp [tup];intro h;subst h
   simp at hc25
  apply Y 0x613f9a7a;refine ⟨by omega,?_⟩;rw [aA xs 0 k oe,aA ys 0 k oe,htk,dJ.1 hc25]
 apply Y 0x84ed91aa9;have hke:k=xs.length:=oe;subst hke;rw [List.take_of_length_le (Nat.le_refl _),List.take_of_length_le oe] at htk
 simp [tup,htk]
theorem Fo.beq {x y:Fo}(h1:x.kind=y.kind)(h2:x.sec=y.sec)(h3:x.at_=y.at_):(x.data==y.data)=decide (x=y):=by
 cases x
 cases y
 simp only at h1 h2 h3;subst h1 h2 h3;exact Zm 0x51ed3e
theorem EY (x y:Fo)(XA YA:Option Addr)(xc yc:Nat)(hx:x.data.length≤9223372036854775807)(hy:y.data.length≤9223372036854775807):
    Ctr X 50 [.agg (List.toArray [.int .i64 x.kind,.int .i64 x.sec,.int .i64 x.at_,.slice XA x.data.length xc]),.agg (List.toArray [.int .i64 y.kind,.int .i64 y.sec,.int .i64 y.at_,.slice YA y.data.length yc])] [Rd XA (U8 x.data),Rd YA (U8 y.data)] [] (fun v R' H'=>v=.bool (decide (x=y))∧R'=[]∧H'=[]):=by
 refine co Tryz.func50 ?_;intro β;apply Y 0x6a;intro A2;apply Y 0x7b;intro A3;apply Y 0x28f83bdb7c49;refine L.bool 10 rfl (imp fA ?_) (imp fz ?_)<;>intro hg10
 ·apply Y 0xb84eba1e480e4;refine L.bool 17 rfl (imp fA ?_) (imp fz ?_)<;>intro hg17
  ·apply Y 0xb84eba1e480e4;refine L.bool 24 rfl (imp fA ?_) (imp fz ?_)<;>intro hg24
   ·apply Y 0x4eba1e480e4;refine al (m8 _ _ _ _ _ _ hx hy) ?_;apply Y 0xecd93888
    exact Fo.beq hg10 hg17 hg24
   apply Y 0xecd938ea
   exact (decide_eq_false fun h=>hg24 obV).symm
  exact Zm 0x8a2fecd938ea28ea
 exact Zm 0x7a2fecd938ea28ea28ea
end Go.Proofs.YtbpddeiogcgegaaGreat
