/-
  Part of a proof.
-/
import Derived.Test.YtbpddeiogcgegaaGreatYWPlG
set_option maxHeartbeats 0
set_option maxRecDepth 4000
set_option linter.all false
namespace Go.Proofs.YtbpddeiogcgegaaGreat
open Go.Sl
theorem lH {f:Fl}{x:Fo}{mk:Nat→UInt8}{a:Fa}{D W E A:Option Addr}{cD cW cE:Nat}{WV:List Value}(_ok:f.Ok)(hE:ao f x=0)(hb:a.hs.length=f.data.length)(hrow:(f.data.getD x.sec.toNat []).length=f.size)
    (hcap:Caps f a) (hkD:f.data.length≤cD) (hW:WV=I64 (dw f x mk).wear):
    ∃ b':Fa,(b'.hs.length=(aS f x mk).data.length∧Caps (aS f x mk) b')∧Value.tuple #[.agg (List.toArray [.int .i64 (f.size:Int),.slice D f.data.length cD,.slice W f.wear.length cW,.int .i64 f.limit,.slice E f.dead.length cE]),.int .i64 0]=.tuple #[flV (aS f x mk) b',.int .i64 (ao f x)]∧
      [Rd D ((aB a.hs (B8 f.data)).set x.sec.toNat (.slice A f.size f.size)),KidsR (a.hs.set x.sec.toNat (A,f.size)) ((B8 f.data).set x.sec.toNat (U8 (nH (ry f x mk) (f.data.getD x.sec.toNat []) f.size))),Rd W WV,Rd E (Bs f.dead)]=flR (aS f x mk) b'∧([]:List Pr)=[]:=by
 have e1:nH (ry f x mk) (f.data.getD x.sec.toNat []) f.size=ji f x mk:=by
  rw [vH (d:=0) oe (fun i h1 h2=>by omega),hrow]
  rfl
 refine ⟨⟨D,cD,a.hs.set x.sec.toNat (A,f.size),W,cW,E,cE⟩,⟨by rw [bz hE,ba,List.length_set];exact hb,⟨fun i hi=>?_,by rw [bz hE,ba];exact hkD⟩⟩,?_,?_,rfl⟩
 ·rw [bz hE] at hi ⊢;rw [ba] at hi
  show f.size≤((a.hs.set x.sec.toNat (A,f.size)).getD i (none,0)).2
  by_cases h:x.sec.toNat=i
  ·subst h;rw [aT oe];exact Zm 0x83e
  have e:(a.hs.set x.sec.toNat (A,f.size)).getD i (none,0)=a.hs.getD i (none,0):=by simp only [List.getD_eq_getElem?_getD,List.getElem?_set_ne h]
  rw [e]
  exact hcap i hi
 ·rw [bz hE,hE]
  show _=Value.tuple #[.agg (List.toArray [.int .i64 (f.size:Int),.slice D (dw f x mk).data.length cD,.slice W (dw f x mk).wear.length cW,.int .i64 f.limit,.slice E f.dead.length cE]),.int .i64 0];rw [ba,lr]
 rw [bz hE]
 show _=[Rd D (aB (a.hs.set x.sec.toNat (A,f.size)) (B8 (f.data.set x.sec.toNat (ji f x mk)))),KidsR (a.hs.set x.sec.toNat (A,f.size)) (B8 (f.data.set x.sec.toNat (ji f x mk))),Rd W (I64 (dw f x mk).wear),Rd E (Bs f.dead)];rw [e1,hW,← zE,cu,xn]
theorem ik {f:Fl}{x:Fo}{mk:Nat→UInt8}{b:Fa}{k:Nat}{WV:List Value}(ok:f.Ok)(hkc:∀ i,i<f.data.length→(f.data.getD i []).length≤(b.hs.getD i (none,0)).2)(hkD:f.data.length≤b.cD)(hE:ao f x=0)(hb:b.hs.length=f.data.length)(hrow:(f.data.getD x.sec.toNat []).length=f.size)(hs:x.sec.toNat<f.data.length)(hk:k≤f.size)
    (hz:∀ i,k≤i→i<f.size→mk i=0) (hW:WV=I64 (dw f x mk).wear):
    ∃ b':Fa,(b'.hs.length=(aS f x mk).data.length∧Caps (aS f x mk) b')∧Value.tuple #[.agg (List.toArray [.int .i64 (f.size:Int),.slice b.D f.data.length b.cD,.slice b.W f.wear.length b.cW,.int .i64 f.limit,.slice b.E f.dead.length b.cE]),.int .i64 0]=.tuple #[flV (aS f x mk) b',.int .i64 (ao f x)]∧
      [Rd b.D (aB b.hs (B8 f.data)),KidsR b.hs (B8 (f.data.set x.sec.toNat (nH (ry f x mk) (f.data.getD x.sec.toNat []) k))),Rd b.W WV,Rd b.E (Bs f.dead)]=flR (aS f x mk) b'∧([]:List Pr)=[]:=by
 have e1:nH (ry f x mk) (f.data.getD x.sec.toNat []) k=ji f x mk:=by
  rw [vH (d:=0) oe (fun i h1 h2=>by unfold ry;rw [hz i h1 oe,AW]),hrow]
  rfl
 have e2:aB b.hs (B8 (dw f x mk).data)=aB b.hs (B8 f.data):=zD hb hs (by rw [cu,hrow]);refine ⟨b,⟨by rw [bz hE,ba];exact hb,⟨fun i hi=>?_,by rw [bz hE,ba];exact hkD⟩⟩,?_,?_,rfl⟩
 ·rw [bz hE] at hi ⊢;rw [ba] at hi;have:=hkc i hi;rw [ok.rows i hi] at this
  exact this
 ·rw [bz hE,hE]
  show _=Value.tuple #[.agg (List.toArray [.int .i64 (f.size:Int),.slice b.D (dw f x mk).data.length b.cD,.slice b.W (dw f x mk).wear.length b.cW,.int .i64 f.limit,.slice b.E f.dead.length b.cE]),.int .i64 0];rw [ba,lr]
 rw [bz hE]
 show _=[Rd b.D (aB b.hs (B8 (dw f x mk).data)),KidsR b.hs (B8 (dw f x mk).data),Rd b.W (I64 (dw f x mk).wear),Rd b.E (Bs f.dead)];rw [e1,hW,e2]
 rfl
theorem xe (f:Fl)(a:Fa)(ok:f.Ok)(hh:a.hs.length=f.data.length)(x:Fo)(XA:Option Addr)(xc:Nat)(hxl:x.data.length≤9223372036854775807)(mf:Nat)(mcap:Array Value)(mk:Nat→UInt8)(Am Bm:Option Addr)(wm zm:List Value)(hm:∀ i:Nat,i≤1000000→Ctr X mf ([.int .i64 (i:Int)]++mcap.toList) [Rd Am wm,Rd Bm zm] [] (fun v R' H'=>v=.int .u8 ((mk i).toNat:Int)∧R'=[]∧H'=[]))(hcap:Caps f a):
    Ctr X 68 [.agg (List.toArray [.int .i64 (f.size:Int),.slice a.D f.data.length a.cD,.slice a.W f.wear.length a.cW,.int .i64 f.limit,.slice a.E f.dead.length a.cE]),.agg (List.toArray [.int .i64 x.kind,.int .i64 x.sec,.int .i64 x.at_,.slice XA x.data.length xc]),.func (.func mf) #[] mcap] [Rd a.D (aB a.hs (B8 f.data)),KidsR a.hs (B8 f.data),Rd a.W (I64 f.wear),Rd a.E (Bs f.dead),Rd XA (U8 x.data),Rd Am wm,Rd Bm zm] [] (fun v R' H'=>∃ b:Fa,(b.hs.length=(aS f x mk).data.length∧Caps (aS f x mk) b)∧v=.tuple #[flV (aS f x mk) b,.int .i64 (ao f x)]∧R'=flR (aS f x mk) b∧H'=[]):=by
 obtain ⟨os1,os2,on1,on2,owl,odl,orows,ol1,ol2,owear⟩:=ok;apply Y 0xf00f;intro hok;refine co Tryz.func68 ?_;intro β;apply Y 0x2a;intro A3;apply Y 0xdd;intro A4;apply Y 0x88;intro A6;apply Y 0xe2e741f689ae428;refine an (uH f a hok hh x XA xc hxl) ?_;apply Zu 0x5d2d129<;>intro hc17
 ·skip;apply Y 0x7fe9fe4aeb38c;refine qrt [1,0,1,1] [] [_,_] rfl ⟨⟨_,_,0,_,rfl,rfl,Src.o 1 rfl,.inl ⟨rfl,by decide,_,rfl,rfl,rfl⟩⟩,rfl,trivial⟩ ?_;refine ⟨az,?_,?_,?_,rfl⟩
  ·rw [fW hc17];exact Zm 0x3e1f
  ·rw [fW hc17]
   rfl
  rw [fW hc17]
  rfl
 apply Y 0xac1f;intro q1 q2 q3 q4 q5 q6;apply Y 0x5d0f;intro hrow;have hwr:=owear x.sec.toNat oe;apply Y 0xaa;refine C.join (fun q:Nat×Array Value×Option Addr×List Value×Option Addr=>[(2,.func (.func mf) #[] mcap),(3,ag A3 0),(4,ag A4 0),(6,ag A6 0),(9,.func (.func q.1) #[] q.2.1),(10,.slice q.2.2.2.2 f.size f.size)]) (fun q:Nat×Array Value×Option Addr×List Value×Option Addr=>[Rd q.2.2.1 q.2.2.2.1,Rd A4 [.int .i64 x.kind,.int .i64 x.sec,.int .i64 x.at_,.slice XA x.data.length xc],Rd a.D (aB a.hs (B8 f.data)),KidsR a.hs (B8 f.data),Rd a.W (I64 f.wear),Rd a.E (Bs f.dead),Rd XA (U8 x.data),Rd Am wm,Rd Bm zm]) (fun q:Nat×Array Value×Option Addr×List Value×Option Addr=>[Own 34 5 A3 1 1 [.int .i64 (f.size:Int),.slice a.D f.data.length a.cD,.slice a.W f.wear.length a.cW,.int .i64 f.limit,.slice a.E f.dead.length a.cE],Own 34 5 A6 1 1 [.int .i64 0,.slice none 0 0,.slice none 0 0,.int .i64 0,.slice none 0 0],Own 5 1 q.2.2.2.2 f.size f.size (List.replicate f.size (.int .u8 0))]) (fun q:Nat×Array Value×Option Addr×List Value×Option Addr=>(∀ (i:Nat) (o:UInt8),i≤1000000→Ctr X q.1 ([.int .i64 (i:Int),.int .u8 (o.toNat:Int)]++q.2.1.toList) [Rd q.2.2.1 q.2.2.2.1,Rd XA (U8 x.data)] [] (fun v R' H'=>v=.int .u8 ((w9 x i o).toNat:Int)∧R'=[]∧H'=[]))) ?_ ?_
 ·refine aG [_,_,_,_,_,_,_,_,_] ⟨Has.r 0 rfl,Has.r 1 rfl,Has.r 2 rfl,Has.r 3 rfl,Has.r 4 rfl,Has.r 5 rfl,Has.r 6 rfl,Has.r 7 rfl,Has.o 0 rfl,trivial⟩ ?_;apply Y 0xd21f;refine mq 2 rfl (faR 8) ?_;refine mq 3 rfl (ldR 8) ?_;refine LM.alt [1,4] oa ob hcx ⟨⟨_,rfl,?_⟩,⟨_,rfl,?_⟩,trivial⟩
  ·refine a8 (Cq x XA xc q1 (fun h=>by have:=q4 h;omega) (fun h=>by have:=q4 h;omega)) ?_;apply Y 0xbc1f;intro fid cap Aw ws hw;apply Y 0xf01f78ec4e6;intro A24;exact Zm 0x312f9cf8ec9
  apply Y 0xf01f;intro A24;apply Y 0x6;refine mfo 1 ?_;refine a8 (Cq x XA xc q1 (fun h=>by have:=q4 h;omega) (fun h=>by have:=q4 h;omega)) ?_;apply Y 0xbc1f;intro fid cap Aw ws hw;apply Y 0x6;refine mfo 5 ?_;exact Zm 0x312f9cf8ec93
 rintro ⟨fid,cap,Aw,ws,A24⟩ hw
 dsimp only at hw ⊢;apply Y 0x200fd52f6b94e99481b;refine L.copy (j:=2) (o:=0) rfl rfl rfl rfl rfl (fun g h _=>h) rfl rfl ((Src.kid 3 rfl oH (x.sec.toNat) OG).cast (bB _)) obr (b4 _) obr rfl ?_;apply Y 0x19587b;refine lp [2,3,4,6,9,10,33,34] [_,_,_,_,_,_,_,_] (fun k:Nat=>[(35,.int .i64 (k:Int))]) (kz [_,_,_,_,_,_,_,_,_]) (fun k=>[Own 34 5 A3 1 1 [.int .i64 (f.size:Int),.slice a.D f.data.length a.cD,.slice a.W f.wear.length a.cW,.int .i64 f.limit,.slice a.E f.dead.length a.cE],Own 34 5 A6 1 1 [.int .i64 0,.slice none 0 0,.slice none 0 0,.int .i64 0,.slice none 0 0],Own 5 1 A24 f.size f.size (U8 (nH (ry f x mk) (f.data.getD x.sec.toNat []) k))]) (fun k=>k≤f.size) (fun k=>f.size-k) 0 oe (by exact lk [0,1,2,3,4,5,6,7,8] [0,1,2] (hh:=⟨rfl,rfl,(congrArg some (ay rfl (by rw [rN];exact EY obr))),trivial⟩)) ?_;intro k hk;apply Zu 0x1cda<;>intro
 ·apply Y 0x852f4849;refine sp (Ev.load rfl rfl rfl (Src.o 2 rfl) (kL oe)) ?_;apply Y 0x13;refine aG [_,_,_,_,_,_,_,_,_,_] ⟨Has.r 0 rfl,Has.r 1 rfl,Has.r 2 rfl,Has.r 3 rfl,Has.r 4 rfl,Has.r 5 rfl,Has.r 6 rfl,Has.r 7 rfl,Has.r 8 rfl,Has.o 2 rfl,trivial⟩ ?_;apply Y 0xbaed2e;refine mq 2 rfl (ae (k:=k) rfl rfl rfl rfl rfl rfl rfl oe (Src.r 9 rfl) Q5) ?_;refine mq 3 rfl (Ev.load rfl rfl rfl (Src.r 9 rfl) (kL oe)) ?_;apply Y 0x98ec4e88e;refine mq 7 rfl (Ev.pure rfl) ?_;apply Y 0xb4ee7ed7e;refine gL (js:=[]) (js':=[0,1,2]) (hw k ((f.data.getD x.sec.toNat []).getD k 0) oe) rfl rfl rfl rfl rfl ob hcx rfl ?_;apply Y 0x629;refine mq 9 rfl (CN rfl rfl) ?_;apply Y 0x63e;refine gL (js:=[]) (js':=[0,1,2]) (hm k oe) rfl rfl rfl rfl rfl ob hcx rfl ?_;apply Y 0x82ec9efec5e629;refine sp (CN rfl rfl) ?_;apply Y 0x4fe6852fe8e6;refine L.store (j:=2) rfl rfl rfl rfl rfl rfl rfl (by exact kL oe) ?_;apply Y 0x6d70e;refine QE.round (k+1) oe oe (by exact lk [0,1,2,3,4,5,6,7,8] [0,1,2] (hh:=⟨rfl,rfl,(congrArg some (by rw [lO,Eu,← vG (k:=k) oe];rfl)),trivial⟩))
 apply Y 0x469;refine aG [_,_,_,_,_,_,_,_,_,_] ⟨Has.r 0 rfl,Has.r 1 rfl,Has.r 2 rfl,Has.r 3 rfl,Has.r 4 rfl,Has.r 5 rfl,Has.r 6 rfl,Has.r 7 rfl,Has.r 8 rfl,Has.o 0 rfl,trivial⟩ ?_;refine mq 0 rfl (faR 9) ?_;refine mq 1 rfl (ldR 9) ?_;refine mq 3 rfl (faR 9) ?_;refine mq 4 rfl (ldR 9) ?_;refine mq 6 rfl (faR 9) ?_;refine mq 7 rfl (ldR 9) ?_;refine mfo 2 ?_;refine an (E6 _ _ _ _ (rp _ _) (by rw [bt oH,b6]) oe) ?_;apply Y 0x89;intro A59 c59;apply Y 0x6;refine mq 9 rfl (faR 9) ?_;refine mfo 5 ?_;refine an (E5 _ _ _ (I64 f.wear) (dk _) (bq _) oe) ?_;apply Y 0x89;intro A62 c62;apply Y 0xb4e6;refine an (E7 _ _ _ (Bs f.dead) (xm _) (mZ _) oe) ?_;apply Y 0x89;intro A65 c65;apply Y 0x41b70efce82e6f1e6be6fce27e6f1e17e6fce48ec9;refine C.cap 2 rfl (fun hkD=>?_);apply Y 0x36bfaef1e68;refine sp (ae (k:=x.sec.toNat) rfl rfl rfl rfl rfl rfl oe oe (Src.o 2 rfl) oy) ?_;refine L.store (j:=2) rfl rfl rfl rfl rfl rfl rfl (by exact bm hh oe) ?_;apply Zu 0x40e16b27b<;>intro hc77
 ·apply Y 0xc52f6bfaef1e68;refine sp (Ev.load rfl rfl rfl (Src.o 1 rfl) (aJ oe)) ?_;apply Y 0xc52f9b;refine L.store (j:=1) rfl rfl rfl rfl rfl rfl rfl obk ?_;apply Y 0x2f8;refine sp (ab rfl rfl rfl (Src.o 3 rfl) rfl rfl ob) ?_;apply Y 0x5a111f;refine qfz 2 [0,1,3,4,5] ?_;refine qfz 1 [0,2,3,4] ?_;refine qfz 0 [1,2,3] ?_;apply Y 0x732f412fcae;obtain rfl:k=f.size:=oe;refine lH hok hc17 hh hrow hcap hkD ?_;rw [jh]
  unfold dw;rw [if_pos hc77]
 apply Y 0x2e8;refine sp (ab rfl rfl rfl (Src.o 3 rfl) rfl rfl ob) ?_;apply Y 0x5a111f;refine qfz 2 [0,1,3,4,5] ?_;refine qfz 1 [0,2,3,4] ?_;refine qfz 0 [1,2,3] ?_;apply Y 0x732f412fcae;obtain rfl:k=f.size:=oe;refine lH hok hc17 hh hrow hcap hkD ?_
 unfold dw;rw [if_neg hc77]
theorem Pt (f:Fl)(a:Fa)(ok:f.Ok)(hh:a.hs.length=f.data.length)(x:Fo)(XA:Option Addr)(xc:Nat)(hxl:x.data.length≤9223372036854775807)(hcap:Caps f a):
    Ctr X 67 [.agg (List.toArray [.int .i64 (f.size:Int),.slice a.D f.data.length a.cD,.slice a.W f.wear.length a.cW,.int .i64 f.limit,.slice a.E f.dead.length a.cE]),.agg (List.toArray [.int .i64 x.kind,.int .i64 x.sec,.int .i64 x.at_,.slice XA x.data.length xc])] [Rd a.D (aB a.hs (B8 f.data)),KidsR a.hs (B8 f.data),Rd a.W (I64 f.wear),Rd a.E (Bs f.dead),Rd XA (U8 x.data)] [] (fun v R' H'=>∃ b:Fa,(b.hs.length=(aS f x (fun _=>255)).data.length∧Caps (aS f x (fun _=>255)) b)∧v=.tuple #[flV (aS f x (fun _=>255)) b,.int .i64 (ao f x)]∧R'=flR (aS f x (fun _=>255)) b∧H'=[]):=by
 refine co Tryz.func67 ?_;intro β;apply Y 0x2a;intro A2;apply Y 0xdd;intro A3;apply Y 0x88;intro A4;apply Y 0xe2e16e688dc3e28;refine dj (js:=[]) (js':=[0]) (xe f a ok hh x XA xc hxl 116 #[] (fun _=>255) none none [] [] (fun i hi=>Ky _ _ _ _ i) hcap) rfl rfl rfl ob ⟨(Has.r 2 rfl),(Has.r 3 rfl),(Has.r 4 rfl),(Has.r 5 rfl),(Has.r 6 rfl),Has.nil,Has.nil,trivial⟩ rfl ?_;apply Y 0x89;intro b hb;apply Y 0x490f5a595;exact ⟨b,hb,rfl,rfl,rfl⟩
theorem Gx (f:Fl)(a:Fa)(ok:f.Ok)(hh:a.hs.length=f.data.length)(x:Fo)(XA:Option Addr)(xc:Nat)(hxl:x.data.length≤9223372036854775807)(ms:List UInt8)(M:Option Addr)(mn mc:Nat)(hmn:ms.length=mn)(hml:ms.length≤9223372036854775807)(hcap:Caps f a):
    Ctr X 32 [.agg (List.toArray [.int .i64 (f.size:Int),.slice a.D f.data.length a.cD,.slice a.W f.wear.length a.cW,.int .i64 f.limit,.slice a.E f.dead.length a.cE]),.agg (List.toArray [.int .i64 x.kind,.int .i64 x.sec,.int .i64 x.at_,.slice XA x.data.length xc]),.slice M mn mc] [Rd a.D (aB a.hs (B8 f.data)),KidsR a.hs (B8 f.data),Rd a.W (I64 f.wear),Rd a.E (Bs f.dead),Rd XA (U8 x.data),Rd M (U8 ms)] [] (fun v R' H'=>∃ b:Fa,(b.hs.length=(aS f x (fun i=>ms.getD i 0)).data.length∧Caps (aS f x (fun i=>ms.getD i 0)) b)∧v=.tuple #[flV (aS f x (fun i=>ms.getD i 0)) b,.int .i64 (ao f x)]∧R'=flR (aS f x (fun i=>ms.getD i 0)) b∧H'=[]):=by
 subst hmn;refine co Tryz.func32 ?_;intro β;apply Y 0x2a;intro A3;apply Y 0xdd;intro A4;apply Y 0x920f;intro A5;apply Y 0x88;intro A6;apply Y 0x316e5a0f688dc3e59e28;refine a8 (xe f a ok hh x XA xc hxl 69 #[ag A5 0] (fun i=>ms.getD i 0) A5 M [.slice M ms.length mc] (U8 ms) (fun i hi=>KA i A5 M ms mc hml) hcap) ?_;apply Y 0x89;intro b hb;apply Y 0x490f5a595;exact ⟨b,hb,rfl,rfl,rfl⟩
theorem EW (f:Fl)(a:Fa)(ok:f.Ok)(hh:a.hs.length=f.data.length)(x:Fo)(XA:Option Addr)(xc:Nat)(hxl:x.data.length≤9223372036854775807)(ms:List UInt8)(M:Option Addr)(mn mc:Nat)(hmn:ms.length=mn)(hml:ms.length≤9223372036854775807):
    Ctr X 19 [.agg (List.toArray [.int .i64 (f.size:Int),.slice a.D f.data.length a.cD,.slice a.W f.wear.length a.cW,.int .i64 f.limit,.slice a.E f.dead.length a.cE]),.agg (List.toArray [.int .i64 x.kind,.int .i64 x.sec,.int .i64 x.at_,.slice XA x.data.length xc]),.slice M mn mc] [Rd a.D (aB a.hs (B8 f.data)),KidsR a.hs (B8 f.data),Rd a.W (I64 f.wear),Rd a.E (Bs f.dead),Rd XA (U8 x.data),Rd M (U8 ms)] [] (fun v R' H'=>∃ b:Fa,(b.hs.length=(aS f x (fun i=>ms.getD i 0)).data.length∧Caps (aS f x (fun i=>ms.getD i 0)) b)∧v=.tuple #[flV (aS f x (fun i=>ms.getD i 0)) b,.int .i64 (ao f x)]∧R'=flR (aS f x (fun i=>ms.getD i 0)) b∧H'=[]):=by
 subst hmn;obtain ⟨os1,os2,on1,on2,owl,odl,orows,ol1,ol2,owear⟩:=ok;apply Y 0xf00f;intro hok;refine co Tryz.func19 ?_;intro β;apply Y 0x2a;intro A3;apply Y 0xdd;intro A4;apply Y 0x88;intro A6;apply Y 0xe2e16e688dc3e28;refine an (s5 f a hok hh x XA xc hxl) ?_;apply Zu 0x5d2d2829<;>intro hc17
 ·skip;apply Y 0x930f7fe9fe4a5938c;refine ⟨az,?_,?_,?_,rfl⟩
  ·rw [fW hc17];exact Zm 0x3e1f
  ·rw [fW hc17]
   rfl
  rw [fW hc17]
  rfl
 apply Y 0xac1f;intro q1 q2 q3 q4 q5 q6;apply Y 0x5d0f;intro hrow;have hwr:=owear x.sec.toNat oe;apply Y 0xaa;refine C.join (fun q:Fa×Option Addr×Option Addr×Nat=>[(2,.slice M ms.length mc),(3,ag A3 0),(4,ag A4 0),(6,ag A6 0),(9,ag q.2.1 0),(10,.slice q.2.2.1 f.size q.2.2.2)]) (fun q:Fa×Option Addr×Option Addr×Nat=>[Rd A4 [.int .i64 x.kind,.int .i64 x.sec,.int .i64 x.at_,.slice XA x.data.length xc],Rd A3 [.int .i64 (f.size:Int),.slice a.D f.data.length a.cD,.slice a.W f.wear.length a.cW,.int .i64 f.limit,.slice a.E f.dead.length a.cE],Rd a.D (aB a.hs (B8 f.data)),KidsR a.hs (B8 f.data),Rd a.W (I64 f.wear),Rd a.E (Bs f.dead),Rd XA (U8 x.data),Rd M (U8 ms)]) (fun q:Fa×Option Addr×Option Addr×Nat=>[Own 34 5 A6 1 1 [.int .i64 0,.slice none 0 0,.slice none 0 0,.int .i64 0,.slice none 0 0],Own 34 5 q.2.1 1 1 [.int .i64 (f.size:Int),.slice q.1.D f.data.length q.1.cD,.slice q.1.W f.wear.length q.1.cW,.int .i64 f.limit,.slice q.1.E f.dead.length q.1.cE],Own 24 1 q.1.D f.data.length q.1.cD (aB q.1.hs (B8 f.data)),aw 5 q.1.hs (B8 f.data),Own 3 1 q.1.W f.wear.length q.1.cW (I64 f.wear),Own 4 1 q.1.E f.dead.length q.1.cE (Bs f.dead),Own 5 1 q.2.2.1 f.size q.2.2.2 (U8 (gj f x))]) (fun q:Fa×Option Addr×Option Addr×Nat=>q.1.hs.length=f.data.length∧(∀ i,i<f.data.length→(f.data.getD i []).length≤(q.1.hs.getD i (none,0)).2)∧f.data.length≤q.1.cD) ?_ ?_
 ·refine aG [_,_,_,_,_,_,_,_] (Hq [0,1,2,3,4,5,6,7] rfl) ?_;apply Y 0xb22f;refine mq 2 rfl (ab rfl rfl rfl (Src.r 1 rfl) rfl rfl ob) ?_;refine mq 3 rfl (ab rfl rfl rfl (Src.r 0 rfl) rfl rfl ob) ?_;refine LM.alt [1,5] oa ob hcx ⟨⟨_,rfl,?_⟩,⟨_,rfl,?_⟩,trivial⟩
  ·refine an (wN f a hok hh) ?_;apply Y 0xb10f;intro b hb;refine L.kcaps 1 rfl (fun hkc=>?_);refine L.cap 0 rfl (fun hkD=>?_);apply Y 0x6;refine LM.alt [4,5] oa ob hcx ⟨⟨_,rfl,?_⟩,⟨_,rfl,?_⟩,trivial⟩
   ·apply Y 0x89721f;intro A24 c24;apply Y 0x6;refine mfo 5 ?_;apply Y 0x88;intro A9;exact Zm 0xd11f9ca7e6a70ff8ec9
   apply Y 0x88;intro A9;apply Y 0x89721f78e6;intro A24 c24;exact Zm 0xd11f9ca7e6a70ff8ec9
  apply Y 0x88;intro A9;apply Y 0x6;refine mfo 1 ?_;refine an (wN f a hok hh) ?_;apply Y 0xb10f;intro b hb;refine L.kcaps 1 rfl (fun hkc=>?_);refine L.cap 0 rfl (fun hkD=>?_);apply Y 0x89721f78e6;intro A24 c24;exact Zm 0xd11f9ca7e6a70ff8ec9
 apply Y 0xcc1f;intro b A9 A24 c24 hb hkc hkD
 dsimp only at hb hkc hkD ⊢;apply Y 0x441b;refine cfz 1 [0,2,3,4,5,6] ?_;refine cfz 1 [0,2,3,4,5] ?_;refine cfz 3 [0,1,2,4] ?_;refine cfz 3 [0,1,2] ?_;apply Y 0x1968;refine lp [2,3,4,6,9,10] [_,_,_,_,_,_] (fun k:Nat=>[(11,.int .i64 (k:Int))]) (kz [_,_,_,_,_,_,_,_,_,_,_,_]) (fun k=>[Own 34 5 A6 1 1 [.int .i64 0,.slice none 0 0,.slice none 0 0,.int .i64 0,.slice none 0 0],aw 5 b.hs (B8 (f.data.set x.sec.toNat (nH (ry f x (fun i=>ms.getD i 0)) (f.data.getD x.sec.toNat []) k))),Own 3 1 b.W f.wear.length b.cW (I64 f.wear)]) (fun k=>k≤f.size∧k≤ms.length) (fun k=>f.size-k) 0 ⟨by omega,by omega⟩ (by exact lk [0,1,2,3,4,5,6,7,8,9,10,11] [0,1,2] (hh:=⟨rfl,(by rw [rN,Dw];rfl),rfl,trivial⟩)) ?_;apply Y 0xf0e;intro k hk hkm;apply Y 0x484;refine sp (faR 5) ?_;refine sp (ldR 5) ?_;apply Zu 0x501f5<;>intro
 ·apply Zu 0x782c2c<;>intro
  ·apply Y 0x249;refine sp (faR 5) ?_;refine sp (ldR 5) ?_;apply Y 0xfbedbe;refine sp (ae (k:=x.sec.toNat) rfl rfl rfl rfl rfl rfl oe oe (Src.r 6 rfl) oy) ?_;apply Y 0x3c62f;refine sp (ae (k:=k) rfl rfl rfl rfl rfl rfl rfl oe ((Src.kid 7 rfl oH (x.sec.toNat) OG).cast (bB _)) oO) ?_;refine sp (Ev.load rfl rfl rfl ((Src.kid 7 rfl oH (x.sec.toNat) OG).cast (bB _)) (bE oe)) ?_;apply Y 0x1;refine aG [_,_,_,_,_,_,_,_,_,_,_,_] (Hq [0,1,2,3,4,5,6,7,8,9,10,11] rfl) ?_;refine mq 0 rfl (faR 3) ?_;refine mq 1 rfl (ldR 3) ?_;refine mq 2 rfl (faR 4) ?_;refine mq 3 rfl (ldR 4) ?_;refine mq 4 rfl (ae (k:=x.sec.toNat) rfl rfl rfl rfl rfl rfl oe oe (Src.r 2 rfl) (by rw [bt (by rw [b6];exact hb),b6];omega)) ?_;refine mq 5 rfl (Ev.load rfl rfl rfl (Src.r 2 rfl) (bm hb oe)) ?_;apply Y 0x98e;refine mq 7 rfl (Ev.pure rfl) ?_;apply Y 0x75ed5e;refine mq 10 rfl (ae (k:=k) rfl rfl rfl rfl rfl rfl rfl oe (Src.r 11 rfl) oO) ?_;refine mq 11 rfl (Ev.load rfl rfl rfl (Src.r 11 rfl) (bE oe)) ?_;refine mq 12 rfl (mY rfl rfl) ?_;refine mq 13 rfl (Ev.pure rfl) ?_;apply Y 0x290f;refine mq 15 rfl (ae (k:=k) rfl rfl rfl rfl rfl rfl rfl oe (Src.r 0 rfl) (by rw [aH,jd];omega)) ?_;refine mq 16 rfl (Ev.load rfl rfl rfl (Src.r 0 rfl) (ya oe)) ?_;apply Y 0x3de;refine mfo 18 ?_;apply Y 0x63;refine mfo 19 ?_;refine sp (ae (k:=k) rfl rfl rfl rfl rfl rfl rfl oe (Src.r 11 rfl) oO) ?_;apply Y 0x6;refine mfo 20 ?_;refine sp (Ev.load rfl rfl rfl (Src.r 11 rfl) (bE oe)) ?_;apply Y 0x6;refine mfo 21 ?_;apply Y 0x6efe;refine mfo 22 ?_;refine sp (Mr rfl rfl) ?_;apply Y 0xc9;refine LM.f 23 rfl oa trivial ?_;refine sp (ae (k:=k) rfl rfl rfl rfl rfl rfl rfl oe (Src.okid 1 rfl obb x.sec.toNat (by rw [b6,List.length_set];omega)) Qz) ?_;apply Y 0x6;refine LM.f 24 rfl oa trivial ?_;refine mT (j:=1) (i:=x.sec.toNat) rfl rfl obb (by rw [b6,List.length_set];omega) rfl rfl rfl rfl rfl Qz ?_;apply Y 0x3a70e;refine QE.round (k+1) (by exact ⟨by omega,by omega⟩) oe (by exact lk [0,1,2,3,4,5,6,7,8,9,10,11] [0,1,2] (hh:=⟨rfl,(congrArg some (by rw [bB,aT oe,lO,xn,List.set_set,← vG (k:=k) oe];rfl)),rfl,trivial⟩))
  apply Zu 0x40e1fbedbe2469<;>intro hc72
  ·apply Y 0xf90ffbedbe800f99e68;refine sp (Ev.load rfl rfl rfl (Src.o 2 rfl) (aJ oe)) ?_;apply Y 0xf90f9b;refine L.store (j:=2) rfl rfl rfl rfl rfl rfl rfl obk ?_;apply Y 0x690fb20fcae5a596a0f2f8;refine ik hok hkc hkD hc17 hb hrow oe hk (fun i h1 h2=>cM oe) ?_;rw [jh]
   unfold dw;rw [if_pos hc72]
  apply Y 0x690fb20fcae5a596a0f2e8;refine ik hok hkc hkD hc17 hb hrow oe hk (fun i h1 h2=>cM oe) ?_
  unfold dw;rw [if_neg hc72]
 apply Y 0x1a8;refine C.cond rfl (fun h=>by cases h) (fun _=>?_);apply Zu 0x40e1fbedbe2469<;>intro hc72
 ·apply Y 0xf90ffbedbe800f99e68;refine sp (Ev.load rfl rfl rfl (Src.o 2 rfl) (aJ oe)) ?_;apply Y 0xf90f9b;refine L.store (j:=2) rfl rfl rfl rfl rfl rfl rfl obk ?_;apply Y 0x690fb20fcae5a596a0f2f8;refine ik hok hkc hkD hc17 hb hrow oe hk (fun i h1 h2=>cM oe) ?_;rw [jh]
  unfold dw;rw [if_pos hc72]
 apply Y 0x690fb20fcae5a596a0f2e8;refine ik hok hkc hkD hc17 hb hrow oe hk (fun i h1 h2=>cM oe) ?_
 unfold dw;rw [if_neg hc72]
theorem Ix (f:Fl)(a:Fa)(ok:f.Ok)(hh:a.hs.length=f.data.length)(x:Fo)(XA:Option Addr)(xc:Nat)(hxl:x.data.length≤9223372036854775807):
    Ctr X 43 [.agg (List.toArray [.int .i64 (f.size:Int),.slice a.D f.data.length a.cD,.slice a.W f.wear.length a.cW,.int .i64 f.limit,.slice a.E f.dead.length a.cE]),.agg (List.toArray [.int .i64 x.kind,.int .i64 x.sec,.int .i64 x.at_,.slice XA x.data.length xc])] [Rd a.D (aB a.hs (B8 f.data)),KidsR a.hs (B8 f.data),Rd a.W (I64 f.wear),Rd a.E (Bs f.dead),Rd XA (U8 x.data)] [] (fun v R' H'=>∃ b:Fa,(b.hs.length=(aS f x (fun _=>255)).data.length∧Caps (aS f x (fun _=>255)) b)∧v=.tuple #[flV (aS f x (fun _=>255)) b,.int .i64 (ao f x)]∧R'=flR (aS f x (fun _=>255)) b∧H'=[]):=by
 obtain ⟨os1,os2,on1,on2,owl,odl,orows,ol1,ol2,owear⟩:=ok;apply Y 0xf00f;intro hok;refine co Tryz.func43 ?_;intro β;apply Y 0x2a;intro A2;apply Y 0xdd;intro A3;apply Y 0x88;intro A4;apply Y 0xb22f4f0f8dc3e28;refine mq 1 rfl (ab rfl rfl rfl (Src.r 0 rfl) rfl rfl ob) ?_;refine mq 2 rfl (faR 1) ?_;refine mq 3 rfl (ldR 1) ?_;apply Y 0x21ef80f78e;intro A10;apply Y 0x6;refine mfo 5 ?_;apply Y 0x770f;refine a8 (EW f a hok hh x XA xc hxl (List.replicate f.size 255) _ f.size _ Ob OO) ?_;apply Y 0x89;intro b hb;apply Y 0x490f23e1b9c7be65919ec93d3e98e6;rw [fV (mk':=fun _=>255) (fun i hi=>bO _ _ _ _ hi)] at hb ⊢;exact ⟨b,hb,rfl,rfl,rfl⟩
theorem Ps (A B:Option Addr)(c d:Nat)(xs ys:List UInt8)(hx:xs.length≤9223372036854775806):
    Ctr X 230 [.slice A xs.length c,.slice B ys.length d] [Rd A (U8 xs),Rd B (U8 ys)] [] (fun v R' H'=>v=.bool (xs==ys)∧R'=[]∧H'=[]):=by
 refine co Tryz.func230 ?_;intro β;apply Zu 0x5d1558da<;>intro hc10
 ·apply Y 0xfc5c;rw [eq_comm,beq_eq_false_iff_ne];intro h;subst h
  exact hc10 rfl
 apply Y 0x1958aa;refine lp [0,1,12] [_,_,_] (fun k:Nat=>[(13,.int .i64 (k:Int))]) (kz [_,_]) nz (fun k=>k≤xs.length∧xs.take k=ys.take k) (fun k=>xs.length-k) 0 ⟨by omega,by simp⟩ (lk [0,1] []) ?_;apply Y 0xf0e;intro k hk htk;apply Zu 0x1cda<;>intro
 ·apply Zu 0x5d9aa9e41fb41fb9900fa41fb93d284849<;>intro hc24
  ·apply Y 0xfc4babf9;rw [eq_comm,beq_eq_false_iff_ne];intro h;subst h
   exact hc24 rfl
  apply Y 0x6dd9;refine QE.round (k+1) ?_ oe (lk [0,1] []);refine ⟨by omega,?_⟩;rw [aC xs 0 k oe,aC ys 0 k oe,htk,e9.1 hc24]
 apply Y 0xfc39f969;obtain rfl:k=xs.length:=oe;rw [List.take_of_length_le (Nat.le_refl _),List.take_of_length_le oe] at htk;rw [eq_comm,beq_iff_eq]
 exact htk
theorem zO (SA RB:Option Addr)(b rec:List UInt8)(ca rc:Nat)(hbl:b.length≤900000)(hrl:rec.length≤900000)(hrc:rec.length≤rc):
    Ctr X 193 [.slice SA b.length ca,.slice RB rec.length rc] [Rd SA (U8 b),Rd RB (U8 rec)] [] (fun v R' H'=>∃ (A:Option Addr) (c:Nat),v=.tuple #[.slice A (vx b rec).length c,.int .i64 (resE b rec)]∧R'=[]∧H'=[Own 5 1 A (vx b rec).length c (U8 (vx b rec))]):=by
 refine co Tryz.func193 ?_;intro β;apply Y 0x482d;refine an (pa SA b.length ca (U8 b) (b4 _) (aH _) oe) ?_;apply Y 0x89;intro A9 c9;apply Y 0x88;intro A6;apply Y 0xc8e7bac;intro h9;apply Zu 0xdf0f53b<;>intro
 ·apply Zu 0x101fc8b86a<;>intro
  ·apply Y 0xb86a2c;refine L.call (js:=[1,0]) (js':=[]) (Hx RB rec rc (b.length:Int) hrc oe A6 A9 b c9 h9 rfl) rfl rfl rfl ob hcx rfl ?_;rintro _ _ _ ⟨rfl,rfl,out,hol,hap,rfl⟩;apply Zu 0xe92d283<;>intro hc26
   ·have hN:bS rec (b.length:Int)=none:=by simpa using hc26
    apply Y 0xb3e4a48;refine qrt [] [2] [_,_] rfl rt ?_;have hB:dq b rec:=.inl hN;exact Zm 0x351f
   obtain ⟨ps,hps⟩:∃ ps,bS rec (b.length:Int)=some ps:=Option.isSome_iff_exists.1 (by simpa using hc26);obtain rfl:=hap ps hps;apply Y 0xb30fbb94e2e8;refine ⟨A9,c9,?_,rfl,?_⟩
   ·rw [zQ hps oe oe,nt hps oe oe,hol]
    rfl
   rw [nt hps oe oe,hol]
   rfl
  apply Y 0x2d283fa;refine C.cond rfl (fun _=>?_) (fun h=>by cases h);apply Y 0xb3e4a48;refine qrt [] [2] [_,_] rfl rt ?_;have hB:dq b rec:=.inr (.inr oe);exact Zm 0x351f
 apply Y 0x2d283fa52b;refine C.cond rfl (fun _=>?_) (fun h=>by cases h);apply Y 0xb3e4a48;refine qrt [] [2] [_,_] rfl rt ?_;have hB:dq b rec:=.inr (.inl oe);exact Zm 0x351f
end Go.Proofs.YtbpddeiogcgegaaGreat
