/-
  Part of a proof.
-/
import Derived.Test.YtbpddeiogcgegaaGreatYWInS
import Derived.Test.YtbpddeiogcgegaaGreatYWPlJ
set_option maxHeartbeats 0
set_option maxRecDepth 4000
set_option linter.all false
namespace Go.Proofs.YtbpddeiogcgegaaGreat
open Go.Sl
structure Ca where
  b:Fa
  G:Option Addr
  U:Option Addr
  V:Option Addr
  O:Option Addr
  Q:Option Addr
  H:Option Addr
  I:Option Addr
  N:Option Addr
  gc:Nat
  uc:Nat
  vc:Nat
  oc:Nat
  qc:Nat
  hc:Nat
  ic:Nat
  nc:Nat
theorem Ia (ls:List (List UInt8))(i k:Nat)(y:UInt8):(B8 ls).set i (((B8 ls).getD i []).set k (.int .u8 (y.toNat:Int)))=B8 (ls.set i ((ls.getD i []).set k y)):=by rw [bB,lO,xn]
theorem yR {β:Base}{n:Nat}{ds:List Deferred}{ops:Array Oper}{Q:Exit→Act→World→Prop}{rest:List Oper}{Γ:Env}{R H:List Pr}{t ty k j e i:Nat}{pos:String}{af:Array Edge}{x v:Operand}{y:UInt8}{ii:Ti}{hs:List Hd}{ls:List (List UInt8)}(ht:au t X.tab=some ii)(hj:H[j]?=some (aw e hs (B8 ls)))(hl:hs.length=(B8 ls).length)(hi:i<ls.length)
    (hx:ev Γ x=some (ag (hs.getD i (none,0)).1 k)) (hy:ev Γ v=some (.int .u8 (y.toNat:Int))) (hv:(Value.int IntKind.u8 (y.toNat:Int)).cells=#[.int .u8 (y.toNat:Int)]) (h1:(Value.int IntKind.u8 (y.toNat:Int)).oneCell'=true) (hsz:ii.size=1) (hk:k<(ls.getD i []).length)
    (hh:L X β n ds ops Q rest Γ R (H.set j (aw e hs (B8 (ls.set i ((ls.getD i []).set k y)))))):L X β n ds ops Q (⟨none,.store t x v,ty,pos,af,none⟩::rest) Γ R H:=by
 refine mT ht hj hl obF hx hy hv h1 hsz (by rw [bB,aH];exact hk) ?_;rw [Ia]
 exact hh
theorem rn {hs:List Hd}{ls ms:List (List UInt8)}(hl:ls.length=ms.length)(h:∀ i,i<ls.length→(ls.getD i []).length=(ms.getD i []).length)(hh:hs.length=ls.length):aB hs (B8 ls)=aB hs (B8 ms):=by
 refine List.ext_getElem? fun i=>?_
 by_cases hi:i<ls.length
 ·rw [bm hh hi,bm (hh.trans hl) oe,h i hi]
 rw [List.getElem?_eq_none oy,List.getElem?_eq_none (by rw [bt (by rw [b6];exact hh.trans hl),b6];omega)]
theorem Sq (x:Raw):mkP false (x.m:Int) (x.m:Int) (x.S:Int) (x.n:Int) x.ops x.img.length=⟨(x.S:Int),(x.n:Int),false,(x.m:Int),(x.m:Int),x.ops,x.seq,x.st⟩:=by
 rw [x.img_len]
 exact x.mkP0
theorem H8 (x:Raw):Ctr X 40 [.int .i64 (x.n:Int),.agg (List.toArray [.int .i64 (x.sg:Int),.int .i64 (x.u:Int),.int .i64 (x.st.length:Int)])] [] []
    (fun v R' H'=>∃ (G U V:Option Addr) (gc uc vc:Nat),v=.agg (List.toArray [.int .i64 x.lay.n,.int .i64 x.lay.a,.int .i64 x.lay.b,.int .i64 x.lay.s0,.int .i64 x.lay.s1,.slice G x.lay.gs.length gc,.slice U x.lay.us.length uc,.slice V x.lay.ls.length vc])∧R'=[]∧H'=[Own 3 1 G x.lay.gs.length gc (I64 x.lay.gs),Own 3 1 U x.lay.us.length uc (I64 x.lay.us),Own 3 1 V x.lay.ls.length vc (I64 x.lay.ls)]):=by
 apply Y 0x67e;intro h1;apply Y 0xace;intro h2;apply Y 0xa10f;intro h3;apply Y 0x6ee;intro h4;refine (xN x.n x.sg x.u (x.st.length:Int) oe oe oe oe).mono ?_;apply Y 0x1e0f;intro G U V gc uc vc;rw [Int.toNat_natCast];have e1:x.lay.gs.length=x.sg:=dE _ _;have e2:x.lay.us.length=x.u:=dE _ _;have e3:x.lay.ls.length=x.st.length:=dE _ _;refine ⟨G,U,V,gc,uc,vc,?_,rfl,?_⟩
 ·rw [e1,e2,e3]
  rfl
 rw [e1,e2,e3]
 rfl
theorem uP (x:Raw)(LA XO:Option Addr)(lc xoc:Nat)(hl:x.l.length≤9223372036854775807)(hol:x.old.length≤9223372036854775807):
    Ctr X 13 [.agg (List.toArray [.slice LA x.l.length lc,.int .u8 (x.w0.toNat:Int),.int .u8 (x.w1.toNat:Int),.int .u8 (x.w2.toNat:Int),.int .u8 (x.w3.toNat:Int),.slice XO x.old.length xoc])] [Rd LA (m5 x.l),Rd XO (U8 x.old)] [] (fun v R' H'=>∃ c:Ca,(c.b.hs.length=x.fl.data.length∧Caps x.fl c.b∧x.lay.ls.length≤c.vc∧x.lay.us.length≤c.uc)∧v=.agg (List.toArray (.int .i64 (x.fl.size:Int)::.slice c.b.D x.fl.data.length c.b.cD::.slice c.b.W x.fl.wear.length c.b.cW::.int .i64 x.fl.limit::.slice c.b.E x.fl.dead.length c.b.cE::.int .i64 x.lay.n::.int .i64 x.lay.a::.int .i64 x.lay.b::.int .i64 x.lay.s0::.int .i64 x.lay.s1::.slice c.G x.lay.gs.length c.gc::.slice c.U x.lay.us.length c.uc::.slice c.V x.lay.ls.length c.vc::.int .i64 5::.int .i64 4::.int .i64 (x.S:Int)::.int .i64 (x.n:Int)::.bool false::.int .i64 (x.m:Int)::.int .i64 (x.m:Int)::.slice c.O x.ops.length c.oc::.slice c.Q x.seq.length c.qc::.slice c.H x.st.length c.hc::.slice none 0 0::.bool true::.slice c.I x.img.length c.ic::.slice c.N x.new.length c.nc::.int .i64 (x.st.length:Int)::.int .i64 (x.u:Int)::.int .i64 x.nd.r::.int .i64 x.nd.e::.int .i64 x.nd.o::[]))∧R'=[Rd c.b.D (aB c.b.hs (B8 x.fl.data)),KidsR c.b.hs (B8 x.fl.data),Rd c.b.W (I64 x.fl.wear),Rd c.b.E (Bs x.fl.dead),Rd c.G (I64 x.lay.gs),Rd c.U (I64 x.lay.us),Rd c.V (I64 x.lay.ls),Rd c.O (cv x.ops),Rd c.Q (I64 x.seq),Rd c.H (I64 x.st),Rd c.I (U8 x.img),Rd c.N (U8 x.new)]∧H'=[]):=by
 apply Y 0x57e;intro hS;apply Y 0x67e;intro hn;have hm:=x.m_le;apply Y 0xace;intro hsg;apply Y 0xa10f;intro hu;apply Y 0x6ee;intro hst;have hsq:=x.seq_len;apply Y 0x910f;intro hmo;have hop:=x.ops_len;have hil:=x.img_len;refine co Tryz.func13 ?_;intro β;apply Y 0x2a;intro A1;apply Y 0x88;intro A2;apply Y 0xdc68a0e8d7b;refine sp (aV (k:=0) (m:=1) rfl rfl rfl rfl rfl rfl ob (Src.r 0 rfl) (Nat.zero_lt_of_lt (show 1<6 by decide)) rfl) ?_;apply Y 0xa3e;refine sp (Ev.cast (u:=.int .u8 (((x.w0.toNat%36):Nat):Int)) (Ev.rem rfl rfl oe ob) (congrArg (Value.int .u8) qF)) ?_;apply Y 0x600f;refine sp (Ev.cast (u:=.int .i64 ((x.S:Nat):Int)) (Ev.add rfl rfl oe oe) (congrArg (Value.int .i64) (by unfold Raw.S;omega))) ?_;apply Y 0xdc21;refine sp (aV (k:=1) (m:=2) rfl rfl rfl rfl rfl rfl ob (Src.r 0 rfl) (Nat.zero_lt_of_lt (show 1<6 by decide)) rfl) ?_;apply Y 0xa3e;refine sp (Ev.cast (u:=.int .u8 (((x.w1.toNat%4):Nat):Int)) (Ev.rem rfl rfl oe ob) (congrArg (Value.int .u8) qF)) ?_;apply Y 0x600f;refine sp (Ev.cast (u:=.int .i64 ((x.n:Nat):Int)) (Ev.add rfl rfl oe oe) (congrArg (Value.int .i64) (by unfold Raw.n;omega))) ?_;apply Y 0x5d821;refine sp (Ev.cast (u:=.int .i64 ((x.m:Nat):Int)) (Ev.mul rfl rfl (by rw [← Int.natCast_mul];have:=x.m_le;unfold Raw.m at this;omega) (by rw [← Int.natCast_mul];have:=x.m_le;unfold Raw.m at this;omega)) (congrArg (Value.int .i64) (by unfold Raw.m;rw [Int.natCast_mul]))) ?_;refine an (If XO x.old xoc x.m hol oe) ?_;apply Y 0x89;intro IA ic;rw [show pI x.old x.m=x.img from rfl];apply Y 0xc8e28db;intro hic;apply Y 0x56b8aa0e8d;refine sp (Ev.cast (u:=.int .i64 ((x.m:Nat):Int)) (Ev.mul rfl rfl (by rw [← Int.natCast_mul];have:=x.m_le;unfold Raw.m at this;omega) (by rw [← Int.natCast_mul];have:=x.m_le;unfold Raw.m at this;omega)) (congrArg (Value.int .i64) (by unfold Raw.m;rw [Int.natCast_mul]))) ?_;refine a8 (Av LA x.l lc x.m hl oe) ?_;apply Y 0x89;intro OA oc;rw [show ptF x.m x.l=x.ops from rfl];apply Y 0xca53c;refine a8 (H5 IA x.img.length ic (x.S:Int) (x.n:Int) false (x.m:Int) (x.m:Int) x.ops OA oc oe oe) ?_;apply Y 0x1e0f;intro PO PQ PH c1 c2 c3;rw [Sq]
 dsimp only;apply Y 0x88c83c;intro A6;apply Y 0x89e8aa0e14e28eb;refine an (Er IA x.img ic (x.S:Int) (x.n:Int) false (x.m:Int) (x.m:Int) x.ops x.seq x.st PO PQ PH c1 c2 c3 oe oe oe oe hic) ?_;apply Y 0x29;rw [show fu false (x.S:Int) (x.n:Int) (x.m:Int) (x.m:Int) x.ops x.seq x.st x.img=x.nd from rfl,x.nd_u,x.nd_s];apply Y 0x88c83c;intro A8;apply Y 0x21eb;refine sp (faR 6) ?_;refine sp (aV (k:=2) (m:=3) rfl rfl rfl rfl rfl rfl ob (Src.r 6 rfl) (Nat.zero_lt_of_lt (show 1<6 by decide)) rfl) ?_;refine sp (ldR 6) ?_;refine sp (Ev.cast (u:=.int .u8 (((x.w2.toNat%2):Nat):Int)) (Ev.rem rfl rfl oe ob) (congrArg (Value.int .u8) qF)) ?_;apply Y 0x600f;refine sp (Ev.cast (u:=.int .i64 ((x.sg:Nat):Int)) (Ev.add rfl rfl oe oe) (congrArg (Value.int .i64) (by unfold Raw.sg;omega))) ?_;apply Y 0x890fd8d83ba0e14e28;refine an (H8 x) ?_;apply Y 0x1e0f;intro GA UA VA gc uc vc;apply Y 0x88aae;intro A11;apply Y 0x7b111f;refine C.cap 2 rfl (fun hvc=>?_);refine C.cap 1 rfl (fun huc=>?_);refine cfz 0 [1,2,3,4] ?_;apply Y 0xfbedbe9bfbedbe9b53ba0e14e32ec3eb7e59ef20f;refine sp (Ev.cast (u:=.int .i64 ((x.more:Nat):Int)) (Ev.add rfl rfl oe oe) (congrArg (Value.int .i64) (by unfold Raw.more;omega))) ?_;refine an (sJ IA x.img ic x.S x.n x.more oe oe oe oe oe) ?_;apply Y 0xb10f;intro b hbl;refine L.kcaps 1 rfl (fun hkc=>?_);refine L.cap 0 rfl (fun hkD=>?_);have hbf:b.hs.length=(flD x.img x.S x.n (x.n+x.more)).length:=by rw [di];exact hbl
 apply Y 0x88130f;intro A12;refine dd (j:=5) rfl rfl rfl rfl rfl (Nat.zero_lt_succ _) rfl rfl ?_;apply Y 0x2f8;refine sp (faO 5) ?_;refine L.store (j:=5) rfl rfl rfl rfl rfl rfl rfl rfl ?_;apply Y 0x19487b;refine lp [1,2,3,4,5,6,8,11,12] [_,_,_,_,_,_,_,_,_] (fun k:Nat=>[(13,.int .i64 ((x.n+k:Nat):Int))]) (kz [_,_,_,_,_,_,_,_,_,_,_,_,_]) (fun k=>[Own 51 32 A2 1 1 [.int .i64 0,.slice none 0 0,.slice none 0 0,.int .i64 0,.slice none 0 0,.int .i64 0,.int .i64 0,.int .i64 0,.int .i64 0,.int .i64 0,.slice none 0 0,.slice none 0 0,.slice none 0 0,.int .i64 0,.int .i64 0,.int .i64 0,.int .i64 0,.bool false,.int .i64 0,.int .i64 0,.slice none 0 0,.slice none 0 0,.slice none 0 0,.slice none 0 0,.bool false,.slice none 0 0,.slice none 0 0,.int .i64 0,.int .i64 0,.int .i64 0,.int .i64 0,.int .i64 0],Own 24 1 b.D (x.n+x.more) b.cD (aB b.hs (B8 (flD x.img x.S x.n (x.n+x.more)))),aw 5 b.hs (B8 (Raw.dirt (flD x.img x.S x.n (x.n+x.more)) x.n x.S x.w3 k)),Own 3 1 b.W (x.n+x.more) b.cW (I64 (List.replicate (x.n+x.more) 0)),Own 4 1 b.E (x.n+x.more) b.cE (Bs (List.replicate (x.n+x.more) false)),Own 34 5 A12 1 1 [.int .i64 (x.S:Int),.slice b.D (x.n+x.more) b.cD,.slice b.W (x.n+x.more) b.cW,.int .i64 100000,.slice b.E (x.n+x.more) b.cE]]) (fun k=>k≤x.more∧(x.w3.toNat%2=1∨k=0)) (fun k=>x.more-k) 0 ⟨Nat.zero_le _,.inr rfl⟩ (lk [0,3,2,1,4,5,6,7,8,10,11,12,13] [4,0,1,2,3,5]) ?_;apply Y 0xf0e;intro k hk hod;apply Y 0x484;refine sp (faO 5) ?_;refine sp (ldO 5) ?_;apply Y 0xc8;refine L.bool 87 rfl (imp of_decide_eq_true ?_) (imp of_decide_eq_false ?_)<;>intro
 ·apply Y 0x7162f7dae7;refine sp (ldR 10) ?_;apply Y 0x7;refine sp (Ev.cast (u:=.int .u8 (((x.w3.toNat%2):Nat):Int)) (Ev.rem rfl rfl oe ob) (congrArg (Value.int .u8) qF)) ?_;apply Zu 0x40e16a<;>intro
  ·apply Y 0x49;have hmd:(x.n+k)%x.S<x.S:=Nat.mod_lt _ oe;refine aG [_,_,_,_,_,_,_,_,_,_,_,_,_,_,_,_] ⟨Has.r 0 rfl,Has.r 1 rfl,Has.r 2 rfl,Has.r 3 rfl,Has.r 4 rfl,Has.r 5 rfl,Has.r 6 rfl,Has.r 7 rfl,Has.r 8 rfl,Has.r 9 rfl,Has.r 10 rfl,Has.r 11 rfl,Has.r 12 rfl,Has.o 5 rfl,Has.o 1 rfl,ck 2 rfl,trivial⟩ ?_;refine mq 0 rfl (faR 13) ?_;refine mq 1 rfl (ldR 13) ?_;apply Y 0x4de;refine mq 3 rfl (ae (k:=(x.n+k)) rfl rfl rfl rfl rfl rfl rfl oe (Src.r 14 rfl) (by rw [bt (by rw [b6];exact hbf),b6,di];omega)) ?_;refine mq 4 rfl (Ev.load rfl rfl rfl (Src.r 14 rfl) (bm hbf (by rw [di];omega))) ?_;apply Y 0x98ec4e;refine mq 7 rfl (Ev.cast (u:=.int .i64 ((((x.n+k)%x.S):Nat):Int)) (Ev.rem rfl rfl oe oe) (congrArg (Value.int .i64) (Int.natCast_emod _ _).symm)) ?_;apply Y 0x69e6162fc7e6daeb4e;refine sp (ldR 10) ?_;apply Y 0x17ec9;refine sp (ae (k:=(x.n+k)%x.S) rfl rfl rfl rfl rfl rfl rfl (by rw [Raw.flD_get _ _ _ _ oe,ef];exact hmd) (Src.okid 2 rfl (by rw [b6,Raw.dirt_len];exact hbf) (x.n+k) (by rw [b6,Raw.dirt_len,di];omega)) (by rw [bB,aH,Raw.dirt_row,Raw.flD_get _ _ _ _ oe,ef];omega)) ?_;apply Y 0x27e6;refine yR (j:=2) (i:=(x.n+k)) (k:=(x.n+k)%x.S) (y:=x.w3) (ls:=(Raw.dirt (flD x.img x.S x.n (x.n+x.more)) x.n x.S x.w3 k)) rfl rfl (by rw [b6,Raw.dirt_len];exact hbf) (by rw [Raw.dirt_len,di];omega) rfl rfl rfl rfl rfl (by rw [Raw.dirt_row,Raw.flD_get _ _ _ _ oe,ef];exact hmd) ?_;apply Y 0x8a73e70e;refine sp (Ev.cast (u:=.int .i64 (((x.n+(k+1)):Nat):Int)) (Ev.add rfl rfl oe oe) (congrArg (Value.int .i64) oe)) ?_;apply Y 0x90e;refine QE.round (k+1) (by exact ⟨by omega,.inl oe⟩) oe (lk [0,1,2,3,4,5,6,7,8,9,10,11,12] [0,1,2,3,4,5])
  ·apply Y 0x881f469;intro hkd;apply Y 0xe61f;intro hdat;have hrows:aB b.hs (B8 (flD x.img x.S x.n (x.n+x.more)))=aB b.hs (B8 x.fl0.data):=rn (by rw [di];exact x.dat_len.symm) (fun i hi=>by rw [di] at hi;rw [Raw.flD_get _ _ _ _ hi,ef];exact (x.dat_row hi).symm) hbf;apply Y 0x171f;intro hcel;apply Y 0x381f;intro hb0;have hcap:Caps x.fl0 b:=⟨fun i hi=>by
    have hi2:i<(x.n+x.more):=by rw [← x.dat_len];exact hi
    have h1:=hkc i obs;rw [Raw.flD_get _ _ _ _ hi2,ef] at h1
    exact h1,by show x.dat.length≤_;rw [x.dat_len];exact hkD⟩
   apply Y 0x6e1f;refine cfz 1 [0,2,3,4,5] ?_;apply Y 0xe80f;refine C.freezeKids 1 rfl [0,2,3,4] ob ob ?_;apply Y 0xf20f;refine cfz 1 [0,2,3] ?_;apply Y 0xa1e722fca872f400f6832e9aeb7e;intro b2 hb2 hc2;apply Y 0x898a2f522fc72f700f48f8ebc8db;intro NA nc;rw [show a7 x.img (ah x.ops)=x.new from rfl];exact Zm 0x5e1f432fbd59c32fb72f5d32fe32f772f972f400f6832ec3e2855b0e
 ·apply Y 0x1fa;refine C.cond rfl (fun h=>by cases h) (fun _=>?_);apply Y 0x881f469;intro hkd;apply Y 0xe61f;intro hdat;have hrows:aB b.hs (B8 (flD x.img x.S x.n (x.n+x.more)))=aB b.hs (B8 x.fl0.data):=rn (by rw [di];exact x.dat_len.symm) (fun i hi=>by rw [di] at hi;rw [Raw.flD_get _ _ _ _ hi,ef];exact (x.dat_row hi).symm) hbf;apply Y 0x171f;intro hcel;apply Y 0x381f;intro hb0;have hcap:Caps x.fl0 b:=⟨fun i hi=>by
   have hi2:i<(x.n+x.more):=by rw [← x.dat_len];exact hi
   have h1:=hkc i obs;rw [Raw.flD_get _ _ _ _ hi2,ef] at h1
   exact h1,by show x.dat.length≤_;rw [x.dat_len];exact hkD⟩
  apply Y 0x6e1f;refine cfz 1 [0,2,3,4,5] ?_;apply Y 0xe80f;refine C.freezeKids 1 rfl [0,2,3,4] ob ob ?_;apply Y 0xf20f;refine cfz 1 [0,2,3] ?_;apply Y 0xa1e722fca872f400f6832e9aeb7e;intro b2 hb2 hc2;apply Y 0x898a2f522fc72f700f48f8ebc8db;intro NA nc;rw [show a7 x.img (ah x.ops)=x.new from rfl];exact Zm 0x5e1f432fbd59c32fb72f5d32fe32f772f972f400f6832ec3e2855b0e
end Go.Proofs.YtbpddeiogcgegaaGreat
section
namespace Go.Sl
structure RunK (f g:Fl)(w:Nat):Prop where
  ok:g.Ok
  n:g.data.length=f.data.length
  s:g.size=f.size
  l:g.limit=f.limit
  d:g.dead=f.dead
  w:∀ i,g.wear.getD i 0≤f.wear.getD i 0+(w:Int)
theorem RunK.refl {f:Fl}(ok:f.Ok)(w:Nat):RunK f f w:=⟨ok,rfl,rfl,rfl,rfl,fun i=>by omega⟩
theorem RunK.cut {f:Fl}{x:Fo}(ok:f.Ok)(hE:ao f x=0)(mk:Nat→UInt8):RunK f (aS f x mk) 1:=by
 apply Y 0xfc0f;intro K;refine ⟨K.ok,K.n,K.s,K.l,K.d,fun i=>?_⟩
 by_cases h:x.kind=1∧(i:Int)=x.sec
 ·have:=mJ (mk:=mk) ok hE (k:=i) h.1 h.2
  omega
 have:=iW (mk:=mk) hE (k:=i) h
 omega
theorem RunK.trans {f g h:Fl}{v w:Nat}(a:RunK f g v)(b:RunK g h w):RunK f h (v+w):=
  ⟨b.ok,b.n.trans a.n,b.s.trans a.s,b.l.trans a.l,b.d.trans a.d,fun i=>by have:=a.w i;have:=b.w i;omega⟩
theorem RunK.mono {f g:Fl}{v w:Nat}(a:RunK f g v)(h:v≤w):RunK f g w:=⟨a.ok,a.n,a.s,a.l,a.d,fun i=>by have:=a.w i;omega⟩
theorem ri {y:Lay}{k:Pkg}{h:Bool}:∀ (m:Nat) (f:Fl),f.Ok→RunK f (aK y k h m f).f m
  |0,f,ok=>RunK.refl ok 0
  |m+1,f,ok=>by
    unfold aK
    split
    · exact RunK.refl ok _
    · split
      · exact RunK.refl ok _
      · rename_i hE
        have hE:ao f (aU f y k h).x=0:=Classical.byContradiction hE
        have c:=RunK.cut ok hE (fun _=>255)
        rw [bz hE] at c
        exact (c.trans (ri m _ c.ok)).mono oe
namespace Raw
variable (x:Raw)
def no:Nat:=HV x.u x.st.length x.seq.length (ndN x.u x.st.length x.seq.length) (ndC (ndN x.u x.st.length x.seq.length) (ndW x.S))
theorem nd_o:x.nd.o=(x.no:Int):=by rw [x.nd_eq];rfl
theorem no_le:x.no≤1000:=by
 apply Y 0xa10f;intro h1;apply Y 0x6ee;intro h2;have h3:=x.seq_len;have h4:=Gj (ndN x.u x.st.length x.seq.length) (ndW x.S)
 unfold no HV ndC
 unfold ndN at h4 ⊢
 omega
def yF:Fl:=(aK x.lay x.pkg true x.no x.fl).f
theorem yF_kept:RunK x.fl x.yF x.no:=ri _ _ x.fl_ok
theorem live (i:Nat):x.fl.dead.getD i false=false:=by
 rw [x.fl_fresh.d]
 show (List.replicate (x.n+x.more) false).getD i false=false
 by_cases hi:i<x.n+x.more
 ·rw [bO _ _ _ _ hi]
 rw [cM QR]
theorem wear_le (i:Nat):x.fl.wear.getD i 0≤1:=by
 have h:=x.fl_fresh.w i;have e:x.fl0.wear.getD i 0=0:=by
  show (List.replicate (x.n+x.more) (0:Int)).getD i 0=0
  by_cases hi:i<x.n+x.more
  ·rw [bO _ _ _ _ hi]
  rw [cM QR]
 omega
end Raw
end Go.Sl
end
namespace Go.Proofs.YtbpddeiogcgegaaGreat
open Go.Sl
theorem eY (x:Raw):x.lay.gs.length≤1000∧x.lay.us.length≤1000∧x.lay.ls.length≤1000:=by
 apply Y 0xace;intro h2;apply Y 0xa10f;intro h3;apply Y 0x6ee;intro h4;refine ⟨?_,?_,?_⟩
 ·show (upI _ _).length≤1000;rw [dE]
  omega
 ·show (upI _ _).length≤1000;rw [dE]
  omega
 show (upI _ _).length≤1000;rw [dE]
 omega
theorem gY (x:Raw):x.pkg.pl.ops.length≤9223372036854775807∧x.pkg.pl.seq.length≤1000000∧x.pkg.pl.st.length≤1000000:=by
 have h1:=x.ops_len;have h2:=x.seq_len;apply Y 0x6ee;intro h3;refine ⟨?_,?_,?_⟩
 ·show x.ops.length≤_
  omega
 ·show x.seq.length≤_
  omega
 show x.st.length≤_
 omega
def x0:Raw:=⟨[(0,3,9)],0,0,0,0,[]⟩
def blk:Fl:=⟨40,flD [] 40 12 12,List.replicate 12 0,1000,List.replicate 12 false⟩
def y00:Lay:=⟨0,0,0,0,0,[],[],[]⟩
theorem Sn:((aU x0.fl x0.lay x0.pkg true).e,(aU x0.fl x0.lay x0.pkg true).done,(aU x0.fl x0.lay x0.pkg true).x.kind)=(0,false,2):=oa
theorem Sk:(aU x0.fl x0.lay x0.pkg true).e=0∧(aU x0.fl x0.lay x0.pkg true).done=false∧(aU x0.fl x0.lay x0.pkg true).x.kind=2:=by
 have h:=Sn
 simp only [Prod.mk.injEq] at h
 exact h
theorem Sj:(aU x0.fl x0.lay x0.pkg false).e=240:=oa
theorem Si:(aU x0.fl y00 x0.pkg true).e=220:=oa
theorem Sg:(aU blk x0.lay x0.pkg true).e=200:=oa
theorem KJ:blk.Ok:=of_decide_eq_true oa
theorem vV (f:Fl)(a:Fa)(ok:f.Ok)(hh:a.hs.length=f.data.length)(y:Lay)(G U V:Option Addr)(gc uc vc:Nat)(hyn: -1000000≤y.n∧y.n≤1000000)(hyl:y.gs.length≤1000∧y.us.length≤1000∧y.ls.length≤1000)(hcap:Caps f a)(k:Pkg)(rv:Value)(h:Bool)(OA QA HA:Option Addr)(oc qc hc:Nat)(hpl:k.pl.ops.length≤9223372036854775807∧k.pl.seq.length≤1000000∧k.pl.st.length≤1000000)(hvc:y.ls.length≤vc):
    Ctr X 18 [flV f a,.agg (List.toArray (hY y G U V gc uc vc)),.agg (List.toArray [.int .i64 k.ver,.int .i64 k.frm,.int .i64 k.pl.sz,.int .i64 k.pl.n,.bool k.pl.lf,.int .i64 k.pl.inn,.int .i64 k.pl.out,.slice OA k.pl.ops.length oc,.slice QA k.pl.seq.length qc,.slice HA k.pl.st.length hc,rv,.bool h])] (flR f a++[Rd G (I64 y.gs),Rd U (I64 y.us),Rd V (I64 y.ls),Rd OA (cv k.pl.ops),Rd QA (I64 k.pl.seq),Rd HA (I64 k.pl.st)]) [] (fun v R' H'=>∃ (O:Option Addr) (oc:Nat),v=.agg (List.toArray [.int .i64 (aU f y k h).x.kind,.int .i64 (aU f y k h).x.sec,.int .i64 (aU f y k h).x.at_,.slice O (aU f y k h).x.data.length oc,.bool (aU f y k h).done,.int .i64 (aU f y k h).e])∧R'=[Rd O (U8 (aU f y k h).x.data)]∧H'=[]):=by
 apply Y 0xc2e;intro hok;refine co Tryz.func18 ?_;intro β;apply Y 0x2a;intro A3;apply Y 0xdd;intro A4;apply Y 0xdd;intro A5;apply Y 0x88;intro A6;apply Y 0xd8672fdc3a0f2a0f68a0e8d32ec3eb7e59e7b;refine a8 (eo f a ok hh y G U V gc uc vc hyn hyl hcap k rv h OA QA HA oc qc hc hpl hvc) ?_;apply Y 0x89;intro XA xc;apply Y 0x88553c;intro A7;apply Y 0xbd59ca5f5e68a0e14e283eb;refine qrt [1] [] [_] rfl ⟨⟨_,_,0,_,rfl,rfl,Src.o 0 rfl,.inl ⟨rfl,by decide,_,rfl,rfl,rfl⟩⟩,trivial⟩ ?_;exact ⟨XA,xc,rfl,rfl,rfl⟩
theorem tM (f:Fl)(a:Fa)(ok:f.Ok)(hh:a.hs.length=f.data.length)(y:Lay)(G U V:Option Addr)(gc uc vc:Nat)(hyn: -1000000≤y.n∧y.n≤1000000)(hyl:y.gs.length≤1000∧y.us.length≤1000∧y.ls.length≤1000)(hcap:Caps f a)(k:Pkg)(rv:Value)(h:Bool)(OA QA HA:Option Addr)(oc qc hc:Nat)(hpl:k.pl.ops.length≤9223372036854775807∧k.pl.seq.length≤1000000∧k.pl.st.length≤1000000)(hvc:y.ls.length≤vc)(m:Nat)(hm:m≤1000000):
    Ctr X 20 [flV f a,.agg (List.toArray (hY y G U V gc uc vc)),.agg (List.toArray [.int .i64 k.ver,.int .i64 k.frm,.int .i64 k.pl.sz,.int .i64 k.pl.n,.bool k.pl.lf,.int .i64 k.pl.inn,.int .i64 k.pl.out,.slice OA k.pl.ops.length oc,.slice QA k.pl.seq.length qc,.slice HA k.pl.st.length hc,rv,.bool h]),.int .i64 (m:Int)] (flR f a++[Rd G (I64 y.gs),Rd U (I64 y.us),Rd V (I64 y.ls),Rd OA (cv k.pl.ops),Rd QA (I64 k.pl.seq),Rd HA (I64 k.pl.st)]) [] (fun v R' H'=>∃ b:Fa,b.hs.length=(aK y k h m f).f.data.length∧Caps (aK y k h m f).f b∧v=.agg (List.toArray [.int .i64 ((aK y k h m f).f.size:Int),.slice b.D (aK y k h m f).f.data.length b.cD,.slice b.W (aK y k h m f).f.wear.length b.cW,.int .i64 (aK y k h m f).f.limit,.slice b.E (aK y k h m f).f.dead.length b.cE,.int .i64 ((aK y k h m f).n:Int),.int .i64 (aK y k h m f).e])∧R'=flR (aK y k h m f).f b∧H'=[]):=by
 apply Y 0xc2e;intro hok;refine co Tryz.func20 ?_;intro β;apply Y 0x2a;intro A4;apply Y 0xdd;intro A5;apply Y 0xdd;intro A6;apply Y 0x88;intro A8;apply Y 0x3d8672fdc3a0f2a0f68a0e8d32ec3eb7e59e7b;refine a8 (DL f a ok hh y G U V gc uc vc hyn hyl hcap k rv h OA QA HA oc qc hc hpl hvc m hm) ?_;apply Y 0xa1e;intro b hb hbc;apply Y 0x88553c;intro A9;apply Y 0x332fbd59ca5400f213eb;exact ⟨b,hb,hbc,rfl,rfl,rfl⟩
theorem DM (f:Fl)(a:Fa)(y:Lay)(G U V:Option Addr)(gc uc vc:Nat)(k:Pkg)(rv:Value)(h:Bool)(OA QA HA:Option Addr)(oc qc hc:Nat):
    Ctr X 35 [flV f a,.agg (List.toArray (hY y G U V gc uc vc)),.agg (List.toArray [.int .i64 k.ver,.int .i64 k.frm,.int .i64 k.pl.sz,.int .i64 k.pl.n,.bool k.pl.lf,.int .i64 k.pl.inn,.int .i64 k.pl.out,.slice OA k.pl.ops.length oc,.slice QA k.pl.seq.length qc,.slice HA k.pl.st.length hc,rv]),.bool h,.int .i64 (-1)] [] [] (fun v R' H'=>v=.tuple #[flV f a,.int .i64 0,.int .i64 1]∧R'=[]∧H'=[]):=by
 refine co Tryz.func35 ?_;intro β;apply Y 0x2a;intro A5;apply Y 0xdd;intro A6;apply Y 0xdd;intro A7;apply Y 0x88;intro A10;apply Zu 0x7848283<;>intro hc19
 ·apply Y 0x2;refine sp (ab (vs:=(flL f a)) rfl rfl rfl (Src.o 0 rfl) rfl rfl ob) ?_;apply Y 0x4a3f4e;refine qrt [] [] [_,_,_] rfl ⟨⟨_,_,0,_,rfl,rfl,Src.o 3 rfl,.inl ⟨rfl,by decide,_,rfl,rfl,rfl⟩⟩,rfl,rfl,trivial⟩ ?_;exact Zm 0xd1e
 exact (hc19 ob).elim
theorem mj :
    Ctr X 12 [] [] [] (fun v R' H'=>v=.bool true∧R'=[]∧H'=[]):=by
 refine co Tryz.func12 ?_;intro β;apply Y 0x890f212;refine pC (cs:=[.int .u8 0,.int .u8 3,.int .u8 9]) rfl rfl rfl rfl (Nat.zero_lt_succ _) rfl rfl rfl (fun A19=>?_);apply Y 0xa20fca;refine dj (js:=[]) (js':=[]) (uP x0 A19 none 1 0 ob ob) rfl rfl rfl ob ⟨(Has.r 0 rfl),Has.nil,trivial⟩ rfl ?_;apply Y 0x2e0f;intro c hcb hcc hcv hcu;obtain ⟨x,hx⟩:∃ x,x=x0:=⟨_,rfl⟩;rw [← hx] at hcb hcc hcv ⊢;apply Y 0x88;intro A1;apply Y 0xdcdc172fdce62fdcfb7b59;refine sp (ab (vs:=(.int .i64 5::.int .i64 4::.int .i64 (x.S:Int)::.int .i64 (x.n:Int)::.bool false::.int .i64 (x.m:Int)::.int .i64 (x.m:Int)::.slice c.O x.ops.length c.oc::.slice c.Q x.seq.length c.qc::.slice c.H x.st.length c.hc::.slice none 0 0::[])) rfl rfl rfl (Src.r 0 rfl) rfl rfl ob) ?_;refine dj (js:=[]) (js':=[]) (eo x.fl c.b x.fl_ok hcb x.lay c.G c.U c.V c.gc c.uc c.vc oJ (eY x) hcc x.pkg (.slice none 0 0) true c.O c.Q c.H c.oc c.qc c.hc (gY x) hcv) rfl rfl rfl ob (Hq [1,2,3,4,5,6,7,8,9,10] rfl) rfl ?_;apply Y 0x89;intro XA1 xc1;have h1:(aU x.fl x.lay x.pkg true).e=0∧(aU x.fl x.lay x.pkg true).done=false∧(aU x.fl x.lay x.pkg true).x.kind=2:=by rw [hx];exact Sk
 apply Y 0x8855;intro A2;apply Y 0x36efb28359;refine sp (ab (vs:=(flL x.fl c.b)) rfl rfl rfl (Src.r 2 rfl) rfl rfl ob) ?_;apply Y 0x36e;refine sp (ab (vs:=(hY x.lay c.G c.U c.V c.gc c.uc c.vc)) rfl rfl rfl (Src.r 2 rfl) rfl rfl ob) ?_;apply Y 0x36e36e;refine sp (ab (vs:=(.int .i64 5::.int .i64 4::.int .i64 (x.S:Int)::.int .i64 (x.n:Int)::.bool false::.int .i64 (x.m:Int)::.int .i64 (x.m:Int)::.slice c.O x.ops.length c.oc::.slice c.Q x.seq.length c.qc::.slice c.H x.st.length c.hc::.slice none 0 0::[])) rfl rfl rfl (Src.r 2 rfl) rfl rfl ob) ?_;refine dj (js:=[]) (js':=[]) (eo x.fl c.b x.fl_ok hcb x.lay c.G c.U c.V c.gc c.uc c.vc oJ (eY x) hcc x.pkg (.slice none 0 0) false c.O c.Q c.H c.oc c.qc c.hc (gY x) hcv) rfl rfl rfl ob (Hq [3,4,5,6,7,8,9,10,11,12] rfl) rfl ?_;apply Y 0x89;intro XA2 xc2;have h2:(aU x.fl x.lay x.pkg false).e=240:=by rw [hx];exact Sj
 apply Y 0x8855;intro A5;apply Y 0x99e21359;refine sp (ab (vs:=(flL x.fl c.b)) rfl rfl rfl (Src.r 3 rfl) rfl rfl ob) ?_;apply Y 0x99e99eca;refine sp (ab (vs:=(.int .i64 5::.int .i64 4::.int .i64 (x.S:Int)::.int .i64 (x.n:Int)::.bool false::.int .i64 (x.m:Int)::.int .i64 (x.m:Int)::.slice c.O x.ops.length c.oc::.slice c.Q x.seq.length c.qc::.slice c.H x.st.length c.hc::.slice none 0 0::[])) rfl rfl rfl (Src.r 3 rfl) rfl rfl ob) ?_;refine dj (js:=[]) (js':=[0]) (eo x.fl c.b x.fl_ok hcb y00 none none none 0 0 0 ob ob hcc x.pkg (.slice none 0 0) true c.O c.Q c.H c.oc c.qc c.hc (gY x) (Nat.le_refl _)) rfl rfl rfl ob ⟨(Has.r 4 rfl),(Has.r 5 rfl),(Has.r 6 rfl),(Has.r 7 rfl),Has.nil,Has.nil,Has.nil,(Has.r 11 rfl),(Has.r 12 rfl),(Has.r 13 rfl),trivial⟩ rfl ?_;apply Y 0x89;intro XA3 xc3;have h3:(aU x.fl y00 x.pkg true).e=220:=by rw [hx];exact Si
 apply Y 0x88553c;intro A8;apply Y 0x213eb;refine L.call (js:=[]) (js':=[0,1]) (sJ none [] 0 40 12 0 ob ob ob ob ob) rfl rfl rfl ob ⟨Has.nil,trivial⟩ rfl ?_;apply Y 0xb10f;intro fb hfl;refine L.kcaps 1 rfl (fun hkc=>?_);refine L.cap 0 rfl (fun hkD=>?_);have hfb:fb.hs.length=blk.data.length:=hfl;have hfc:Caps blk fb:=⟨fun i hi=>by
  have hi2:i<12:=hi;have h1:=hkc i obs;rw [Raw.flD_get _ _ _ _ hi2,ef] at h1
  exact h1,hkD⟩
 refine lnr [_,_,_,_,_,_] [0,1,2,3,4,5] ?_;apply Y 0x88;intro A11;apply Y 0x7ba70f;refine cfz 0 [1,2,3,4,5,6] ?_;refine cnr [_,_,_,_,_,_] [0,1,2,3,4,5] ?_;refine C.freezeKids 0 rfl [1,2,3,4,5] ob ob ?_;apply Y 0xe80f;refine cfz 0 [1,2,3,4] ?_;apply Y 0x6832e9beb7e59ef20f;refine sp (ab (vs:=(flL blk fb)) rfl rfl rfl (Src.r 0 rfl) rfl rfl ob) ?_;refine sp (faR 9) ?_;refine sp (ab (vs:=(hY x.lay c.G c.U c.V c.gc c.uc c.vc)) rfl rfl rfl (Src.r 9 rfl) rfl rfl ob) ?_;refine sp (faR 9) ?_;refine sp (faR 9) ?_;refine sp (ab (vs:=(.int .i64 5::.int .i64 4::.int .i64 (x.S:Int)::.int .i64 (x.n:Int)::.bool false::.int .i64 (x.m:Int)::.int .i64 (x.m:Int)::.slice c.O x.ops.length c.oc::.slice c.Q x.seq.length c.qc::.slice c.H x.st.length c.hc::.slice none 0 0::[])) rfl rfl rfl (Src.r 9 rfl) rfl rfl ob) ?_;refine dj (js:=[]) (js':=[0,1]) (eo blk fb KJ hfb x.lay c.G c.U c.V c.gc c.uc c.vc oJ (eY x) hfc x.pkg (.slice none 0 0) true c.O c.Q c.H c.oc c.qc c.hc (gY x) hcv) rfl rfl rfl ob (Hq [4,3,2,1,14,15,16,17,18,19] rfl) rfl ?_;apply Y 0x89;intro XA4 xc4;have h4:(aU blk x.lay x.pkg true).e=200:=by rw [hx];exact Sg
 apply Y 0x8855db;intro A12;apply Y 0xdaedaed31fdaef62fdae21372e;refine sp (ab (vs:=(.int .i64 5::.int .i64 4::.int .i64 (x.S:Int)::.int .i64 (x.n:Int)::.bool false::.int .i64 (x.m:Int)::.int .i64 (x.m:Int)::.slice c.O x.ops.length c.oc::.slice c.Q x.seq.length c.qc::.slice c.H x.st.length c.hc::.slice none 0 0::[])) rfl rfl rfl (Src.r 10 rfl) rfl rfl ob) ?_;refine an (DM x.fl c.b x.lay c.G c.U c.V c.gc c.uc c.vc x.pkg (.slice none 0 0) true c.O c.Q c.H c.oc c.qc c.hc) ?_;apply Y 0x8855b0e29;intro A15;apply Y 0x6c13f4e;refine L.bool 83 rfl (imp ey ?_) (imp ew ?_)<;>intro hg83
 ·apply Y 0xc8b8;refine L.bool 87 rfl ?_ ?_<;>intro hg87
  ·apply Y 0x7;refine sp (faR 8) ?_;apply Y 0x7;refine sp (ldR 8) ?_;apply Y 0xc87;refine L.bool 92 rfl (imp ey ?_) (imp ew ?_)<;>intro hg92
   ·apply Y 0xc8b8;refine L.bool 96 rfl (imp ey ?_) (imp ew ?_)<;>intro hg96
    ·apply Y 0xc8b8;refine L.bool 100 rfl (imp ey ?_) (imp ew ?_)<;>intro hg100
     ·apply Y 0xc8b8;refine L.bool 104 rfl (imp ey ?_) (imp ew ?_)<;>intro hg104
      ·apply Y 0xc8b8;refine L.bool 108 rfl (imp ey ?_) (imp ew ?_)<;>intro hg108
       ·apply Y 0xc8b8;refine L.bool 112 rfl (imp ey ?_) (imp ew ?_)<;>intro hg112
        ·apply Y 0x7d31f7dae7f62f7dae7;refine L.call (js:=[]) (js':=[0,1,2,3]) (CW true (iI (x.fl.size:Int) x.fl c.b hcb (by have:=x.fl_ok.n2;omega) x.lay c.G c.U c.V c.gc c.uc c.vc oJ (eY x)) (by rw [uh x.fl_ok];exact x.lay_ok)) rfl rfl rfl ob (Hq [11,12,13,14,15,16,17] rfl) rfl ?_;apply Y 0x7d31f7dae7ca75aae29;refine L.call (js:=[]) (js':=[0,1,2,3]) (CW false (iI 0 flz az rfl ob x.lay c.G c.U c.V c.gc c.uc c.vc oJ (eY x)) (fx (fun q=>by have:=q.2.1;omega))) rfl rfl rfl ob ⟨Has.nil,Has.kids0,Has.nil,Has.nil,(Has.r 15 rfl),(Has.r 16 rfl),(Has.r 17 rfl),trivial⟩ rfl ?_;exact Zm 0xd1e395a57aae29
        exact (hg112 rfl).elim
       exact (hg108 rfl).elim
      exact (hg104 h4).elim
     exact (hg100 h3).elim
    exact (hg96 h2).elim
   exact (hg92 h1.2.2).elim
  rw [h1.2.1] at hg87
  cases hg87
 exact (hg83 h1.1).elim
end Go.Proofs.YtbpddeiogcgegaaGreat
