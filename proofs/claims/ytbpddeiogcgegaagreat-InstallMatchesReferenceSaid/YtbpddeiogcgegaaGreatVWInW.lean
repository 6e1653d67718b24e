/-
  Part of a proof.
-/
import Derived.Test.YtbpddeiogcgegaaGreatVIo
set_option maxHeartbeats 0
set_option maxRecDepth 4000
set_option linter.all false
namespace Go.Proofs.YtbpddeiogcgegaaGreat
open Go.Sl
structure Ca where
  b:Fa
  G:Option Addr
  U:Option Addr
  V:Option Addr
  O:Option Addr
  Q:Option Addr
  H:Option Addr
  I:Option Addr
  N:Option Addr
  gc:Nat
  uc:Nat
  vc:Nat
  oc:Nat
  qc:Nat
  hc:Nat
  ic:Nat
  nc:Nat
theorem GM (ls:List (List UInt8))(i k:Nat)(y:UInt8):(B8 ls).set i (((B8 ls).getD i []).set k (.int .u8 (y.toNat:Int)))=B8 (ls.set i ((ls.getD i []).set k y)):=by rw [aW,im,vC]
theorem xq {β:Base}{n:Nat}{ds:List Deferred}{ops:Array Oper}{Q:Exit→Act→World→Prop}{rest:List Oper}{Γ:Env}{R H:List Pr}{t ty k j e i:Nat}{pos:String}{af:Array Edge}{x v:Operand}{y:UInt8}{ii:Ti}{hs:List Hd}{ls:List (List UInt8)}(ht:ar t X.tab=some ii)(hj:H[j]?=some (au e hs (B8 ls)))(hl:hs.length=(B8 ls).length)(hi:i<ls.length)
    (hx:ev Γ x=some (ag (hs.getD i (none,0)).1 k)) (hy:ev Γ v=some (.int .u8 (y.toNat:Int))) (hv:(Value.int IntKind.u8 (y.toNat:Int)).cells=#[.int .u8 (y.toNat:Int)]) (h1:(Value.int IntKind.u8 (y.toNat:Int)).oneCell'=true) (hsz:ii.size=1) (hk:k<(ls.getD i []).length)
    (hh:L X β n ds ops Q rest Γ R (H.set j (au e hs (B8 (ls.set i ((ls.getD i []).set k y)))))):L X β n ds ops Q (⟨none,.store t x v,ty,pos,af,none⟩::rest) Γ R H:=by
 refine lE ht hj hl obL hx hy hv h1 hsz (by rw [aW,aG];exact hk) ?_;rw [GM]
 exact hh
theorem nJ {hs:List Hd}{ls ms:List (List UInt8)}(hl:ls.length=ms.length)(h:∀ i,i<ls.length→(ls.getD i []).length=(ms.getD i []).length)(hh:hs.length=ls.length):ay hs (B8 ls)=ay hs (B8 ms):=by
 refine List.ext_getElem? fun i=>?_
 by_cases hi:i<ls.length
 ·rw [aK hh hi,aK (hh.trans hl) oe,h i hi]
 rw [List.getElem?_eq_none ow,List.getElem?_eq_none (by rw [bk (by rw [bF];exact hh.trans hl),bF];omega)]
theorem Rr (x:Raw):mkP false (x.m:Int) (x.m:Int) (x.S:Int) (x.n:Int) x.ops x.img.length=⟨(x.S:Int),(x.n:Int),false,(x.m:Int),(x.m:Int),x.ops,x.seq,x.st⟩:=by
 rw [x.img_len]
 exact x.mkP0
theorem GK (x:Raw):Ctr X 40 [.int .i64 (x.n:Int),.agg (List.toArray [.int .i64 (x.sg:Int),.int .i64 (x.u:Int),.int .i64 (x.st.length:Int)])] [] []
    (fun v R' H'=>∃ (G U V:Option Addr) (gc uc vc:Nat),v=.agg (List.toArray [.int .i64 x.lay.n,.int .i64 x.lay.a,.int .i64 x.lay.b,.int .i64 x.lay.s0,.int .i64 x.lay.s1,.slice G x.lay.gs.length gc,.slice U x.lay.us.length uc,.slice V x.lay.ls.length vc])∧R'=[]∧H'=[Own 3 1 G x.lay.gs.length gc (I64 x.lay.gs),Own 3 1 U x.lay.us.length uc (I64 x.lay.us),Own 3 1 V x.lay.ls.length vc (I64 x.lay.ls)]):=by
 apply Y 0xabe;intro h1;apply Y 0xa50f;intro h2;apply Y 0xb50f;intro h3;apply Y 0x720f;intro h4;refine (v8 x.n x.sg x.u (x.st.length:Int) oe oe oe oe).mono ?_;apply Y 0xa51f;intro G U V gc uc vc;rw [Int.toNat_natCast];have e1:x.lay.gs.length=x.sg:=eT _ _;have e2:x.lay.us.length=x.u:=eT _ _;have e3:x.lay.ls.length=x.st.length:=eT _ _;refine ⟨G,U,V,gc,uc,vc,?_,rfl,?_⟩
 ·rw [e1,e2,e3];exact Zm 0x2
 rw [e1,e2,e3];exact Zm 0x2
theorem sU (x:Raw)(LA XO:Option Addr)(lc xoc:Nat)(hl:x.l.length≤9223372036854775807)(hol:x.old.length≤9223372036854775807):
    Ctr X 13 [.agg (List.toArray [.slice LA x.l.length lc,.int .u8 (x.w0.toNat:Int),.int .u8 (x.w1.toNat:Int),.int .u8 (x.w2.toNat:Int),.int .u8 (x.w3.toNat:Int),.slice XO x.old.length xoc])] [Rd LA (jj x.l),Rd XO (U8 x.old)] [] (fun v R' H'=>∃ c:Ca,(c.b.hs.length=x.fl.data.length∧Caps x.fl c.b∧x.lay.ls.length≤c.vc)∧v=.agg (List.toArray (.int .i64 (x.fl.size:Int)::.slice c.b.D x.fl.data.length c.b.cD::.slice c.b.W x.fl.wear.length c.b.cW::.int .i64 x.fl.limit::.slice c.b.E x.fl.dead.length c.b.cE::.int .i64 x.lay.n::.int .i64 x.lay.a::.int .i64 x.lay.b::.int .i64 x.lay.s0::.int .i64 x.lay.s1::.slice c.G x.lay.gs.length c.gc::.slice c.U x.lay.us.length c.uc::.slice c.V x.lay.ls.length c.vc::.int .i64 5::.int .i64 4::.int .i64 (x.S:Int)::.int .i64 (x.n:Int)::.bool false::.int .i64 (x.m:Int)::.int .i64 (x.m:Int)::.slice c.O x.ops.length c.oc::.slice c.Q x.seq.length c.qc::.slice c.H x.st.length c.hc::.slice none 0 0::.bool true::.slice c.I x.img.length c.ic::.slice c.N x.new.length c.nc::.int .i64 (x.st.length:Int)::.int .i64 (x.u:Int)::.int .i64 x.nd.r::.int .i64 x.nd.e::.int .i64 x.nd.o::[]))∧R'=[Rd c.b.D (ay c.b.hs (B8 x.fl.data)),KidsR c.b.hs (B8 x.fl.data),Rd c.b.W (I64 x.fl.wear),Rd c.b.E (Bs x.fl.dead),Rd c.G (I64 x.lay.gs),Rd c.U (I64 x.lay.us),Rd c.V (I64 x.lay.ls),Rd c.O (bZ x.ops),Rd c.Q (I64 x.seq),Rd c.H (I64 x.st),Rd c.I (U8 x.img),Rd c.N (U8 x.new)]∧H'=[]):=by
 apply Y 0x9be;intro hS;apply Y 0xabe;intro hn;have hm:=x.m_le;apply Y 0xa50f;intro hsg;apply Y 0xb50f;intro hu;apply Y 0x720f;intro hst;apply Y 0x651f;intro hsq;apply Y 0x950f;intro hmo;have hop:=x.ops_len;have hil:=x.img_len;refine co Tryz.func13 ?_;intro β;apply Y 0x4a;intro A1;apply Y 0x98;intro A2;apply Y 0xc0e68ebdb7b;refine sp (aC (k:=0) (m:=1) rfl rfl rfl rfl rfl rfl ob (Src.r 0 rfl) (Nat.zero_lt_of_lt (show 1<6 by decide)) rfl) ?_;apply Y 0xc4e;refine sp (Ev.cast (u:=.int .u8 (((x.w0.toNat%36):Nat):Int)) (Ev.rem rfl rfl oe ob) (congrArg (Value.int .u8) OT)) ?_;apply Y 0xace;refine sp (Ev.cast (u:=.int .i64 ((x.S:Nat):Int)) (Ev.add rfl rfl oe oe) (congrArg (Value.int .i64) (by unfold Raw.S;omega))) ?_;apply Y 0xc0e71;refine sp (aC (k:=1) (m:=2) rfl rfl rfl rfl rfl rfl ob (Src.r 0 rfl) (Nat.zero_lt_of_lt (show 1<6 by decide)) rfl) ?_;apply Y 0xc4e;refine sp (Ev.cast (u:=.int .u8 (((x.w1.toNat%4):Nat):Int)) (Ev.rem rfl rfl oe ob) (congrArg (Value.int .u8) OT)) ?_;apply Y 0xace;refine sp (Ev.cast (u:=.int .i64 ((x.n:Nat):Int)) (Ev.add rfl rfl oe oe) (congrArg (Value.int .i64) (by unfold Raw.n;omega))) ?_;apply Y 0x48f871;refine sp (Ev.cast (u:=.int .i64 ((x.m:Nat):Int)) (Ev.mul rfl rfl (by rw [← Int.natCast_mul];have:=x.m_le;unfold Raw.m at this;omega) (by rw [← Int.natCast_mul];have:=x.m_le;unfold Raw.m at this;omega)) (congrArg (Value.int .i64) (by unfold Raw.m;rw [Int.natCast_mul]))) ?_;refine al (GT XO x.old xoc x.m hol oe) ?_;apply Y 0x19;intro IA ic;rw [show nm x.old x.m=x.img from rfl];apply Y 0x69e49ab;intro hic;apply Y 0x481b2cebdb;refine sp (Ev.cast (u:=.int .i64 ((x.m:Nat):Int)) (Ev.mul rfl rfl (by rw [← Int.natCast_mul];have:=x.m_le;unfold Raw.m at this;omega) (by rw [← Int.natCast_mul];have:=x.m_le;unfold Raw.m at this;omega)) (congrArg (Value.int .i64) (by unfold Raw.m;rw [Int.natCast_mul]))) ?_;refine aJ (yS LA x.l lc x.m hl oe) ?_;apply Y 0x19;intro OA oc;rw [show ptF x.m x.l=x.ops from rfl];apply Y 0xfa483a;refine aJ (GI IA x.img.length ic (x.S:Int) (x.n:Int) false (x.m:Int) (x.m:Int) x.ops OA oc oe oe) ?_;apply Y 0xa51f;intro PO PQ PH c1 c2 c3;rw [Rr];apply Y 0x98b83a84e;intro A6;apply Y 0x68e2ceb92e496b;refine al (mw IA x.img ic (x.S:Int) (x.n:Int) false (x.m:Int) (x.m:Int) x.ops x.seq x.st PO PQ PH c1 c2 c3 oe oe oe oe hic) ?_;apply Y 0xa8;rw [show e9 false (x.S:Int) (x.n:Int) (x.m:Int) (x.m:Int) x.ops x.seq x.st x.img=x.nd from rfl,x.nd_u,x.nd_s];apply Y 0x98b83a;intro A8;apply Y 0x716b;refine sp (faR 6) ?_;refine sp (aC (k:=2) (m:=3) rfl rfl rfl rfl rfl rfl ob (Src.r 6 rfl) (Nat.zero_lt_of_lt (show 1<6 by decide)) rfl) ?_;refine sp (ldR 6) ?_;refine sp (Ev.cast (u:=.int .u8 (((x.w2.toNat%2):Nat):Int)) (Ev.rem rfl rfl oe ob) (congrArg (Value.int .u8) OT)) ?_;apply Y 0xace;refine sp (Ev.cast (u:=.int .i64 ((x.sg:Nat):Int)) (Ev.add rfl rfl oe oe) (congrArg (Value.int .i64) (by unfold Raw.sg;omega))) ?_;apply Y 0xd01ff8f89ceb92e49;refine al (GK x) ?_;apply Y 0xa51f;intro GA UA VA gc uc vc;apply Y 0x985ce;intro A11;apply Y 0x7bd81f;refine C.cap 2 rfl (fun hvc=>?_);apply Y 0xccea6ecaccea6eca489ceb92e90eb1ea4e35ebde210f;refine sp (Ev.cast (u:=.int .i64 ((x.more:Nat):Int)) (Ev.add rfl rfl oe oe) (congrArg (Value.int .i64) (by unfold Raw.more;omega))) ?_;refine al (px IA x.img ic x.S x.n x.more oe oe oe oe oe) ?_;apply Y 0xc50f;intro b hbl;apply Y 0x4e0f;intro hkc;apply Y 0x3e0f;intro hkD;have hbf:b.hs.length=(flD x.img x.S x.n (x.n+x.more)).length:=by rw [cX];exact hbl
 apply Y 0x98570f;intro A12;refine cN (j:=5) rfl rfl rfl rfl rfl (Nat.zero_lt_succ _) rfl rfl ?_;apply Y 0x788;refine sp (faO 5) ?_;refine L.store (j:=5) rfl rfl rfl rfl rfl rfl rfl rfl ?_;apply Y 0xba385888;refine lp [1,2,3,4,5,6,8,11,12] [_,_,_,_,_,_,_,_,_] (fun k:Nat=>[(13,.int .i64 ((x.n+k:Nat):Int))]) (kz [_,_,_,_,_,_,_,_,_,_,_,_,_]) (fun k=>[Own 51 32 A2 1 1 [.int .i64 0,.slice none 0 0,.slice none 0 0,.int .i64 0,.slice none 0 0,.int .i64 0,.int .i64 0,.int .i64 0,.int .i64 0,.int .i64 0,.slice none 0 0,.slice none 0 0,.slice none 0 0,.int .i64 0,.int .i64 0,.int .i64 0,.int .i64 0,.bool false,.int .i64 0,.int .i64 0,.slice none 0 0,.slice none 0 0,.slice none 0 0,.slice none 0 0,.bool false,.slice none 0 0,.slice none 0 0,.int .i64 0,.int .i64 0,.int .i64 0,.int .i64 0,.int .i64 0],Own 24 1 b.D (x.n+x.more) b.cD (ay b.hs (B8 (flD x.img x.S x.n (x.n+x.more)))),au 5 b.hs (B8 (Raw.dirt (flD x.img x.S x.n (x.n+x.more)) x.n x.S x.w3 k)),Own 3 1 b.W (x.n+x.more) b.cW (I64 (List.replicate (x.n+x.more) 0)),Own 4 1 b.E (x.n+x.more) b.cE (Bs (List.replicate (x.n+x.more) false)),Own 34 5 A12 1 1 [.int .i64 (x.S:Int),.slice b.D (x.n+x.more) b.cD,.slice b.W (x.n+x.more) b.cW,.int .i64 100000,.slice b.E (x.n+x.more) b.cE]]) (fun k=>k≤x.more∧(x.w3.toNat%2=1∨k=0)) (fun k=>x.more-k) 0 ⟨Nat.zero_le _,.inr rfl⟩ (lk [0,3,2,1,4,5,6,7,8,10,11,12,13] [4,0,1,2,3,5]) ?_;apply Y 0xa1e;intro k hk hod;apply Y 0x658;refine sp (faO 5) ?_;refine sp (ldO 5) ?_;apply Y 0xb8;refine L.bool 87 rfl (imp of_decide_eq_true ?_) (imp of_decide_eq_false ?_)<;>intro
 ·apply Y 0x49e3f45ee4;refine sp (ldR 10) ?_;apply Y 0x4;refine sp (Ev.cast (u:=.int .u8 (((x.w3.toNat%2):Nat):Int)) (Ev.rem rfl rfl oe ob) (congrArg (Value.int .u8) OT)) ?_;apply Zu 0xec384<;>intro
  ·apply Y 0x89;have hmd:(x.n+k)%x.S<x.S:=Nat.mod_lt _ oe;refine av [_,_,_,_,_,_,_,_,_,_,_,_,_,_,_,_] ⟨Has.r 0 rfl,Has.r 1 rfl,Has.r 2 rfl,Has.r 3 rfl,Has.r 4 rfl,Has.r 5 rfl,Has.r 6 rfl,Has.r 7 rfl,Has.r 8 rfl,Has.r 9 rfl,Has.r 10 rfl,Has.r 11 rfl,Has.r 12 rfl,Has.o 5 rfl,Has.o 1 rfl,b8 2 rfl,trivial⟩ ?_;refine mq 0 rfl (faR 13) ?_;refine mq 1 rfl (ldR 13) ?_;apply Y 0xdde;refine mq 3 rfl (ae (k:=(x.n+k)) rfl rfl rfl rfl rfl rfl rfl oe (Src.r 14 rfl) (by rw [bk (by rw [bF];exact hbf),bF,cX];omega)) ?_;refine mq 4 rfl (Ev.load rfl rfl rfl (Src.r 14 rfl) (aK hbf (by rw [cX];omega))) ?_;apply Y 0xe9e36e;refine mq 7 rfl (Ev.cast (u:=.int .i64 ((((x.n+k)%x.S):Nat):Int)) (Ev.rem rfl rfl oe oe) (congrArg (Value.int .i64) (Int.natCast_emod _ _).symm)) ?_;apply Y 0x57e39e3ff6e35ee54e;refine sp (ldR 10) ?_;apply Y 0x86e69;refine sp (ae (k:=(x.n+k)%x.S) rfl rfl rfl rfl rfl rfl rfl (by rw [Raw.flD_get _ _ _ _ oe,dS];exact hmd) (Src.okid 2 rfl (by rw [bF,Raw.dirt_len];exact hbf) (x.n+k) (by rw [bF,Raw.dirt_len,cX];omega)) (by rw [aW,aG,Raw.dirt_row,Raw.flD_get _ _ _ _ oe,dS];omega)) ?_;apply Y 0x48e3;refine xq (j:=2) (i:=(x.n+k)) (k:=(x.n+k)%x.S) (y:=x.w3) (ls:=(Raw.dirt (flD x.img x.S x.n (x.n+x.more)) x.n x.S x.w3 k)) rfl rfl (by rw [bF,Raw.dirt_len];exact hbf) (by rw [Raw.dirt_len,cX];omega) rfl rfl rfl rfl rfl (by rw [Raw.dirt_row,Raw.flD_get _ _ _ _ oe,dS];exact hmd) ?_;apply Y 0x2c74ecc;refine sp (Ev.cast (u:=.int .i64 (((x.n+(k+1)):Nat):Int)) (Ev.add rfl rfl oe oe) (congrArg (Value.int .i64) oe)) ?_;apply Y 0xd1e;refine QE.round (k+1) (by exact ⟨by omega,.inl oe⟩) oe (lk [0,1,2,3,4,5,6,7,8,9,10,11,12] [0,1,2,3,4,5])
  ·apply Y 0x442f5a9;intro hkd;apply Y 0x412f;intro hdat;have hrows:ay b.hs (B8 (flD x.img x.S x.n (x.n+x.more)))=ay b.hs (B8 x.fl0.data):=nJ (by rw [cX];exact x.dat_len.symm) (fun i hi=>by rw [cX] at hi;rw [Raw.flD_get _ _ _ _ hi,dS];exact (x.dat_row hi).symm) hbf;apply Y 0x612f;intro hcel;apply Y 0x832f;intro hb0;have hcap:Caps x.fl0 b:=⟨fun i hi=>by
    have hi2:i<(x.n+x.more):=by rw [← x.dat_len];exact hi
    have h1:=hkc i obz;rw [Raw.flD_get _ _ _ _ hi2,dS] at h1
    exact h1,by show x.dat.length≤_;rw [x.dat_len];exact hkD⟩
   apply Y 0xf1e493ffac04f810f6890e4cea4eaa1fbdede2fbf0f9a1fee2f;intro b2 hb2 hc2;apply Y 0xf9886bb8ab;refine sp (faR 13) ?_;apply Y 0x19b64f183f214f;intro NA nc;exact Zm 0xbe2fea3fd89bab3ff04f48bb3fcb3fb04fd04f810f6890eb1e5e84830ea64f
 ·apply Y 0x11d;refine C.cond rfl (fun h=>by cases h) (fun _=>?_);apply Y 0x442f5a9;intro hkd;apply Y 0x412f;intro hdat;have hrows:ay b.hs (B8 (flD x.img x.S x.n (x.n+x.more)))=ay b.hs (B8 x.fl0.data):=nJ (by rw [cX];exact x.dat_len.symm) (fun i hi=>by rw [cX] at hi;rw [Raw.flD_get _ _ _ _ hi,dS];exact (x.dat_row hi).symm) hbf;apply Y 0x612f;intro hcel;apply Y 0x832f;intro hb0;have hcap:Caps x.fl0 b:=⟨fun i hi=>by
   have hi2:i<(x.n+x.more):=by rw [← x.dat_len];exact hi
   have h1:=hkc i obz;rw [Raw.flD_get _ _ _ _ hi2,dS] at h1
   exact h1,by show x.dat.length≤_;rw [x.dat_len];exact hkD⟩
  apply Y 0xf1e493ffac04f810f6890e4cea4eaa1fbdede2fbf0f9a1fee2f;intro b2 hb2 hc2;apply Y 0xf9886bb8ab;refine sp (faR 13) ?_;apply Y 0x19b64f183f214f;intro NA nc;exact Zm 0xbe2fea3fd89bab3ff04f48bb3fcb3fb04fd04f810f6890eb1e5e84830ea64f
end Go.Proofs.YtbpddeiogcgegaaGreat
section
namespace Go.Sl
def cT (f:Fl)(r:Nx):Prop:=r.e=0→r.done=false→aF f r.x=0
theorem cT.bad (f:Fl){e:Int}(h:e≠0):cT f ⟨fo0,false,e⟩:=fun g=>absurd g h
theorem cT.fin (f:Fl)(x:Fo):cT f ⟨x,true,0⟩:=fun _ h=>by cases h
theorem gM (f:Fl){e:Int}(h:e≠0):cT f (nxE e):=fun g=>absurd g h
theorem cT.tow (f:Fl)(sec:Int)(want:List UInt8):cT f (aS f sec want):=by
 unfold aS
 split
 ·exact Zm 0xc20f
 split
 ·exact Zm 0x3c0f
 split
 ·rename_i h
  exact cT.bad f h
 rename_i h;exact fun _ _=>Classical.byContradiction h
theorem cT.prog {f:Fl}{sec at_:Int}{d:List UInt8}(hs:0≤sec∧sec<(f.data.length:Int))(ha:0≤at_∧at_+(d.length:Int)≤(f.size:Int)):cT f (dx f ⟨2,sec,at_,d⟩):=by
 apply Y 0x6be
 split
 ·exact Zm 0xc20f
 rename_i h
 exact fun _ _=>mV hs qD ha
theorem Aa {f:Fl}{a b:Int}(h:(an f a b).found=true):cY f a b=true∧0≤(an f a b).sec∧(an f a b).sec<(f.data.length:Int)∧0≤(an f a b).oth∧(an f a b).oth<(f.data.length:Int):=by
 have hf:cY f a b=true:=by
  cases hf:cY f a b with
  |true=>rfl
  |false=>
   unfold an at h;rw [if_neg (by rw [hf];decide)] at h
   cases h
 have hp:=gr hf;refine ⟨hf,?_⟩
 unfold an;rw [if_pos hf]
 split
 ·exact hp
 rw [(fx _ _ _).1,(fx _ _ _).2.1]
 exact hp
theorem cT.next (f:Fl)(a b:Int)(s:List Int):cT f (a6 f a b s):=by
 apply Y 0xc10f
 split
 ·exact Zm 0xc20f
 rename_i h;have hfo:(an f a b).found=true:=by
  cases q:(an f a b).found with
  |true=>rfl
  |false=>exact absurd (.inl q) h
 have hr:aI s=true:=by
  cases q:aI s with
  |true=>rfl
  |false=>exact absurd (.inr q) h
 obtain ⟨hf,h1,h2,h3,h4⟩:=Aa hfo;have hsz:=(eD hf).2.2.2.2.2
 split
 ·exact Zm 0x3c0f
 split
 ·rename_i h5;refine cT.prog ⟨h1,h2⟩ ?_;rw [jq hr]
  unfold ef at h5;exact Zm 0x18
 split
 ·refine cT.prog ⟨h3,h4⟩ ?_;rw [List.length_take];exact Zm 0x18
 exact cT.tow _ _ _
theorem cT.towS {f:Fl}(_ok:f.Ok){us:List Int}(hu:UOk f us)(at_:Int)(b:List UInt8):cT f (towS f us at_ b):=by
 unfold Sl.towS
 split
 ·exact Zm 0xc20f
 split
 ·exact Zm 0xc20f
 split
 ·exact Zm 0x3c0f
 rename_i s hfi;obtain ⟨hs,hd⟩:=Ab hfi;have hus:=hu.r s hs
 split
 ·exact Zm 0xc20f
 rename_i hde;intro _ _;have hft:frm at_.toNat f.size s<too at_.toNat f.size b.length s:=by
  unfold eF at hd;rw [Bool.and_eq_true,decide_eq_true_eq] at hd
  exact hd.1
 apply Y 0x741f;intro hcl;have hfr:s*f.size≤frm at_.toNat f.size s∧too at_.toNat f.size b.length s≤s*f.size+f.size:=by
  unfold frm too;rw [Nat.succ_mul];exact Zm 0x18
 unfold L1
 exact mV hus (by simpa using hde) ⟨by omega,by rw [hcl];omega⟩
theorem cT.thn {f:Fl}{y:Lay}{x:Nx}{s:List Int}(h:cT f x):cT f (cg f y x s):=by
 unfold cg
 split
 ·exact Zm 0x22e
 exact Zm 0xd20f
theorem cT.pl (f:Fl)(y:Lay)(s:List Int)(t:Int):cT f (plF f y s t):=by
 unfold plF
 split
 ·exact Zm 0xeee
 exact cT.tow _ _ _
theorem cT.sg (f:Fl)(y:Lay)(s:List Int)(c:List UInt8):cT f (sgF f y s c):=by
 unfold sgF
 split
 ·exact Zm 0xeee
 split
 ·exact Zm 0xd20f
 exact Zm 0xc51f
theorem cT.pre (f:Fl)(y:Lay)(s:List Int)(p:Pln):cT f (dD f y s p):=by
 unfold dD
 split
 ·rename_i h;exact Zm 0x4c0f
 split
 ·exact Zm 0xeee
 split
 ·exact Zm 0xd20f
 exact Zm 0xc51f
theorem cT.sta (f:Fl)(y:Lay)(s:List Int)(p:Pln):cT f (eI f y s p):=by
 unfold eI
 split
 ·exact Zm 0xd20f
 exact Zm 0xc51f
theorem cT.wrt {f:Fl}(ok:f.Ok){y:Lay}(hu:UOk f y.us)(s:List Int)(p:Pln):cT f (dw f y s p):=by
 apply Y 0x9ee
 split
 ·exact Zm 0xd20f
 split
 ·exact Zm 0xeee
 split
 ·exact (cT.pl _ _ _ _).thn
 split
 ·rename_i h;exact Zm 0x4c0f
 split
 ·exact cT.sg _ _ _ _
 exact (cT.towS ok hu _ _).thn
theorem cT.bck (f:Fl)(y:Lay)(s:List Int):cT f (dz f y s):=by
 apply Y 0x2de
 split
 ·exact Zm 0xd20f
 split
 ·exact Zm 0xeee
 split
 ·rename_i h;exact Zm 0x4c0f
 split
 ·exact Zm 0xeee
 split
 ·exact (cT.pl _ _ _ _).thn
 split
 ·rename_i h;exact Zm 0x4c0f
 exact cT.sg _ _ _ _
theorem I6 {f:Fl}{y:Lay}(k:Pkg)(h:Bool)(hu:eJ f y=true→UOk f y.us):cT f (aZ f y k h):=by
 unfold aZ
 split
 ·exact Zm 0xeee
 rename_i hl;have hl:eJ f y=true:=obs;have ok:f.Ok:=by
  unfold eJ at hl;rw [Bool.and_eq_true,decide_eq_true_eq] at hl
  exact hl.1
 split
 ·rename_i q
  exact gM f q
 split
 ·exact Zm 0x3c0f
 split
 ·exact cT.bck _ _ _
 split
 ·exact Zm 0xeee
 split
 ·rename_i q
  exact gM f q
 split
 ·exact cT.pre _ _ _ _
 split
 ·exact cT.sta _ _ _ _
 exact cT.wrt ok (hu hl) _ _
theorem wj (b:List UInt8):aI (pH b)=true:=by
 unfold aI dP;apply Y 0x221f;intro k hk;replace hk:=List.mem_range.1 hk;rw [cA hk];have h1:=jh ((b.drop (ni k)).take (wds.getD k 0));have h2:((b.drop (ni k)).take (wds.getD k 0)).length≤wds.getD k 0:=oP;have h3:(256^((b.drop (ni k)).take (wds.getD k 0)).length:Nat)≤256^wds.getD k 0:=Nat.pow_le_pow_right ob h2
 exact decide_eq_true ⟨by omega,by omega⟩
theorem nB {l:List UInt8}{s:List Int}(h:bX l=some s):aI s=true:=by
 unfold bX at h
 split at h
 ·injection h with h
  rw [← h]
  exact wj _
 cases h
theorem rD {row:List UInt8}{x:Lg}{i:Nat}(h:aI x.s=true):aI (gj row x i).s=true:=by
 apply Y 0xd10f
 split
 ·exact Zm 0x22e
 split
 ·rename_i hs
  exact nB hs
 exact Zm 0x22e
theorem jr {row:List UInt8}{x:Lg}(h:aI x.s=true):∀ k,aI (bA row x k).s=true
  |0=>h
  |k+1=>by
    rw [bK]
    exact rD (jr h k)
theorem gN:aI (List.replicate 9 0)=true:=ob
theorem jL (f:Fl)(a b:Int):aI (aj f a b).s=true:=by
 unfold aj
 split<;>exact gN
theorem sH (f:Fl)(a b:Int):aI (an f a b).s=true:=by
 unfold an
 split
 ·split
  ·exact jL f a b
  exact jr (jL f a b) _
 exact gN
theorem rN (f:Fl)(a b:Int):aI (a8 f a b).1=true:=by
 unfold a8
 split
 ·exact sH f a b
 exact gN
theorem nN {s:List Int}{k:Nat}{v:Int}(h:aI s=true)(hk:k<s.length)(hv:Dw v (wds.getD k 0)=true):aI (s.set k v)=true:=by
 unfold aI dP at h ⊢;rw [List.all_eq_true] at h ⊢;intro i hi
 by_cases e:k=i
 ·subst e;rw [aQ hk]
  exact hv
 have:=h i hi;rw [List.getD_eq_getElem?_getD] at this ⊢;rw [List.getElem?_set_ne e]
 exact this
structure RunK (f g:Fl)(w:Nat):Prop where
  ok:g.Ok
  n:g.data.length=f.data.length
  s:g.size=f.size
  l:g.limit=f.limit
  d:g.dead=f.dead
  w:∀ i,g.wear.getD i 0≤f.wear.getD i 0+(w:Int)
theorem RunK.refl {f:Fl}(ok:f.Ok)(w:Nat):RunK f f w:=⟨ok,rfl,rfl,rfl,rfl,fun i=>by omega⟩
theorem RunK.cut {f:Fl}{x:Fo}(ok:f.Ok)(hE:aF f x=0)(mk:Nat→UInt8):RunK f (c7 f x mk) 1:=by
 apply Y 0xf72f;intro K;refine ⟨K.ok,K.n,K.s,K.l,K.d,fun i=>?_⟩
 by_cases h:x.kind=1∧(i:Int)=x.sec
 ·have:=lA (mk:=mk) ok hE (k:=i) h.1 h.2;exact Zm 0x18
 have:=gZ (mk:=mk) hE (k:=i) h;exact Zm 0x18
theorem RunK.trans {f g h:Fl}{v w:Nat}(a:RunK f g v)(b:RunK g h w):RunK f h (v+w):=
  ⟨b.ok,b.n.trans a.n,b.s.trans a.s,b.l.trans a.l,b.d.trans a.d,fun i=>by have:=a.w i;have:=b.w i;omega⟩
theorem RunK.mono {f g:Fl}{v w:Nat}(a:RunK f g v)(h:v≤w):RunK f g w:=⟨a.ok,a.n,a.s,a.l,a.d,fun i=>by have:=a.w i;omega⟩
theorem gn {y:Lay}{k:Pkg}{h:Bool}:∀ (m:Nat) (f:Fl),f.Ok→RunK f (bq y k h m f).f m
  |0,f,ok=>RunK.refl ok 0
  |m+1,f,ok=>by
    unfold bq
    split
    · exact RunK.refl ok _
    · split
      · exact RunK.refl ok _
      · rename_i hE
        have hE:aF f (aZ f y k h).x=0:=Classical.byContradiction hE
        have c:=RunK.cut ok hE (fun _=>255)
        rw [bO hE] at c
        exact (c.trans (gn m _ c.ok)).mono oe
namespace Raw
variable (x:Raw)
def no:Nat:=IV x.u x.st.length x.seq.length (ndN x.u x.st.length x.seq.length) (ndC (ndN x.u x.st.length x.seq.length) (ndW x.S))
theorem nd_o:x.nd.o=(x.no:Int):=by rw [x.nd_eq];rfl
theorem no_le:x.no≤1000:=by
 apply Y 0xb50f;intro h1;apply Y 0x720f;intro h2;apply Y 0x651f;intro h3;have h4:=E2 (ndN x.u x.st.length x.seq.length) (ndW x.S)
 unfold no IV ndC
 unfold ndN at h4 ⊢;exact Zm 0x18
def yF:Fl:=(bq x.lay x.pkg true x.no x.fl).f
def sF:List Int:=((a8 x.yF (x.n:Int) ((x.n:Int)+1)).1.set 0 6).set 5 1
def flB:Fl:=(bG x.yF (x.n:Int) ((x.n:Int)+1) x.sF).1
theorem yF_kept:RunK x.fl x.yF x.no:=gn _ _ x.fl_ok
theorem sF_right:aI x.sF=true:=by
 have h:=rN x.yF (x.n:Int) ((x.n:Int)+1);have hl:=jD x.yF (x.n:Int) ((x.n:Int)+1)
 exact nN (nN h oe ob) (by rw [List.length_set];omega) ob
theorem live (i:Nat):x.fl.dead.getD i false=false:=by
 rw [x.fl_fresh.d];apply Y 0x774f
 by_cases hi:i<x.n+x.more
 ·exact Zm 0xc90f
 exact Zm 0xb90f
theorem wear_le (i:Nat):x.fl.wear.getD i 0≤1:=by
 have h:=x.fl_fresh.w i;have e:x.fl0.wear.getD i 0=0:=by
  apply Y 0x674f
  by_cases hi:i<x.n+x.more
  ·exact Zm 0xc90f
  exact Zm 0xb90f
 exact Zm 0x18
theorem fresh_of {g:Fl}{w:Nat}(K:RunK x.fl g w)(hw:w≤90000){s:List Int}(hs:aI s=true):(bG g (x.n:Int) ((x.n:Int)+1) s).2=0∧Fresh g (x.n:Int) ((x.n:Int)+1) s (bG g (x.n:Int) ((x.n:Int)+1) s).1:=by
 have hl:g.limit=100000:=K.l.trans x.fl_fresh.l;have hwe:∀ i,g.wear.getD i 0<g.limit:=fun i=>by
  have h1:=K.w i;have h2:=x.wear_le i;rw [hl];exact Zm 0x18
 apply Y 0x9be;intro h1;apply Y 0xabe;intro h2;apply Y 0x950f;intro h3;have h4:=K.n.trans x.fl_len;have h5:=K.s.trans x.fl_size
 exact ig K.ok (decide_eq_true ⟨by omega,by omega,by omega,by rw [h4];omega,by rw [h4];omega,by omega⟩) hs ⟨by rw [K.d];exact x.live _,by rw [K.d];exact x.live _⟩ ⟨hwe _,hwe _⟩
theorem flB_fresh:(bG x.yF (x.n:Int) ((x.n:Int)+1) x.sF).2=0∧Fresh x.yF (x.n:Int) ((x.n:Int)+1) x.sF x.flB:=x.fresh_of x.yF_kept (by have:=x.no_le;omega) x.sF_right
theorem flB_ok:x.flB.Ok:=x.flB_fresh.2.ok
end Raw
end Go.Sl
end
namespace Go.Proofs.YtbpddeiogcgegaaGreat
open Go.Sl
theorem dH (x:Raw):x.lay.gs.length≤1000∧x.lay.us.length≤1000∧x.lay.ls.length≤1000:=by
 apply Y 0xa50f;intro h2;apply Y 0xb50f;intro h3;apply Y 0x720f;intro h4;refine ⟨?_,?_,?_⟩
 ·apply Y 0xef1f;rw [eT];exact Zm 0x18
 ·apply Y 0xef1f;rw [eT];exact Zm 0x18
 apply Y 0xef1f;rw [eT];exact Zm 0x18
theorem dW (x:Raw):x.pkg.pl.ops.length≤9223372036854775807∧x.pkg.pl.seq.length≤1000000∧x.pkg.pl.st.length≤1000000:=by
 have h1:=x.ops_len;apply Y 0x651f;intro h2;apply Y 0x720f;intro h3;refine ⟨?_,?_,?_⟩
 ·show x.ops.length≤_;exact Zm 0x18
 ·show x.seq.length≤_;exact Zm 0x18
 show x.st.length≤_;exact Zm 0x18
theorem Dz (x:Raw)(LA XO:Option Addr)(lc xoc:Nat)(hl:x.l.length≤9223372036854775807)(hol:x.old.length≤9223372036854775807):
    Ctr X 14 [.agg (List.toArray [.slice LA x.l.length lc,.int .u8 (x.w0.toNat:Int),.int .u8 (x.w1.toNat:Int),.int .u8 (x.w2.toNat:Int),.int .u8 (x.w3.toNat:Int),.slice XO x.old.length xoc])] [Rd LA (jj x.l),Rd XO (U8 x.old)] [] (fun v R' H'=>∃ c:Ca,(c.b.hs.length=x.flB.data.length∧Caps x.flB c.b∧x.lay.ls.length≤c.vc)∧v=.agg (List.toArray (mcA x.flB c.b x.lay c.G c.U c.V c.gc c.uc c.vc (.int .i64 5::.int .i64 4::.int .i64 (x.S:Int)::.int .i64 (x.n:Int)::.bool false::.int .i64 (x.m:Int)::.int .i64 (x.m:Int)::.slice c.O x.ops.length c.oc::.slice c.Q x.seq.length c.qc::.slice c.H x.st.length c.hc::.slice none 0 0::.bool true::.slice c.I x.img.length c.ic::.slice c.N x.new.length c.nc::.int .i64 (x.st.length:Int)::.int .i64 (x.u:Int)::.int .i64 x.nd.r::.int .i64 x.nd.e::.int .i64 x.nd.o::[])))∧R'=(flR x.flB c.b++[Rd c.G (I64 x.lay.gs),Rd c.U (I64 x.lay.us),Rd c.V (I64 x.lay.ls),Rd c.O (bZ x.ops),Rd c.Q (I64 x.seq),Rd c.H (I64 x.st),Rd c.I (U8 x.img),Rd c.N (U8 x.new)])∧H'=[]):=by
 obtain ⟨p0,p1,p2,p3,p4,p5,p6,p7,p8,hs9⟩:=nine (jD x.yF x.lay.a x.lay.b);have hsF:x.sF=[6,p1,p2,p3,p4,1,p6,p7,p8]:=by unfold Raw.sF;rw [show (a8 x.yF (x.n:Int) ((x.n:Int)+1)).1=_ from hs9];rfl
 refine co Tryz.func14 ?_;intro β;apply Y 0x4a;intro A1;apply Y 0x98;intro A2;apply Y 0x68ebdb7b;refine sp (aa (vs:=[_,_,_,_,_,_]) rfl rfl rfl (Src.r 0 rfl) rfl rfl ob) ?_;refine aJ (sU x LA XO lc xoc hl hol) ?_;apply Y 0xeb0f;intro c hcb hcc hcv;apply Y 0x983a;intro A3;apply Y 0x91e7886b;refine sp (aa (vs:=(flL x.fl c.b)) rfl rfl rfl (Src.o 1 rfl) rfl rfl ob) ?_;apply Y 0x91ebd1f91e;refine sp (aa (vs:=(.int .i64 5::.int .i64 4::.int .i64 (x.S:Int)::.int .i64 (x.n:Int)::.bool false::.int .i64 (x.m:Int)::.int .i64 (x.m:Int)::.slice c.O x.ops.length c.oc::.slice c.Q x.seq.length c.qc::.slice c.H x.st.length c.hc::.slice none 0 0::.bool true::[])) rfl rfl rfl (Src.o 1 rfl) rfl rfl ob) ?_;apply Y 0x91e91e;refine sp (Ev.cast (u:=.int .i64 (x.no:Int)) (ldO 1) (congrArg (Value.int .i64) x.nd_o)) ?_;refine aJ (iM x.fl c.b x.fl_ok hcb x.lay c.G c.U c.V c.gc c.uc c.vc oE (dH x) hcc x.pkg (.slice none 0 0) true c.O c.Q c.H c.oc c.qc c.hc (dW x) x.no (by have:=x.no_le;omega)) ?_;apply Y 0xf1e;intro b hb hbc;apply Y 0x98ab;intro A4;apply Y 0xbd1f91e204f46e78832e;refine al (yu x.yF b x.yF_kept.ok hb ⟨x.lay.n,x.lay.a,x.lay.b,x.lay.s0,x.lay.s1,c.G,x.lay.gs.length,c.gc,c.U,x.lay.us.length,c.uc,c.V,x.lay.ls.length,c.vc⟩ hbc) ?_;apply Y 0x84ea8;rw [hs9];apply Y 0x98630e;intro A5;apply Y 0xbd1f91e204f46e7889de73e7889de73e78895e;refine sp (aa (vs:=[_,_,_,_,_,_,_,_,_]) rfl rfl rfl (Src.o 3 rfl) rfl rfl ob) ?_;refine aJ (po x.yF b x.yF_kept.ok hb ⟨x.lay.n,x.lay.a,x.lay.b,x.lay.s0,x.lay.s1,c.G,x.lay.gs.length,c.gc,c.U,x.lay.us.length,c.uc,c.V,x.lay.ls.length,c.vc⟩ hbc [6,p1,p2,p3,p4,1,p6,p7,p8] rfl) ?_;apply Y 0xf1e;intro b2 hb2 hc2;have hFB:(bG x.yF x.lay.a x.lay.b [6,p1,p2,p3,p4,1,p6,p7,p8]).1=x.flB:=by rw [← hsF];rfl
 dsimp only at hb2 hc2 ⊢;rw [hFB] at hb2 hc2 ⊢;apply Y 0x7886b91eb85ce;refine sp (aa (vs:=(mcA x.flB b2 x.lay c.G c.U c.V c.gc c.uc c.vc (.int .i64 5::.int .i64 4::.int .i64 (x.S:Int)::.int .i64 (x.n:Int)::.bool false::.int .i64 (x.m:Int)::.int .i64 (x.m:Int)::.slice c.O x.ops.length c.oc::.slice c.Q x.seq.length c.qc::.slice c.H x.st.length c.hc::.slice none 0 0::.bool true::.slice c.I x.img.length c.ic::.slice c.N x.new.length c.nc::.int .i64 (x.st.length:Int)::.int .i64 (x.u:Int)::.int .i64 x.nd.r::.int .i64 x.nd.e::.int .i64 x.nd.o::[]))) rfl rfl rfl (Src.o 1 rfl) rfl rfl ob) ?_;apply Y 0xd89b;refine qrt [0,1,2,3,12,13,14,15,16,17,18,19] [] [_] rfl ⟨⟨_,_,0,_,rfl,rfl,Src.o 0 rfl,.inl ⟨rfl,by decide,_,rfl,rfl,rfl⟩⟩,trivial⟩ ?_;exact ⟨⟨b2,c.G,c.U,c.V,c.O,c.Q,c.H,c.I,c.N,c.gc,c.uc,c.vc,c.oc,c.qc,c.hc,c.ic,c.nc⟩,⟨hb2,hc2,hcv⟩,rfl,rfl,rfl⟩
def x0:Raw:=⟨[(0,3,9)],0,0,0,0,[]⟩
def blk:Fl:=⟨40,flD [] 40 12 12,List.replicate 12 0,1000,List.replicate 12 false⟩
def y00:Lay:=⟨0,0,0,0,0,[],[],[]⟩
theorem Ro:((aZ x0.fl x0.lay x0.pkg true).e,(aZ x0.fl x0.lay x0.pkg true).done,(aZ x0.fl x0.lay x0.pkg true).x.kind)=(0,false,2):=oa
theorem Rm:(aZ x0.fl x0.lay x0.pkg true).e=0∧(aZ x0.fl x0.lay x0.pkg true).done=false∧(aZ x0.fl x0.lay x0.pkg true).x.kind=2:=by
 have h:=Ro
 simp only [Prod.mk.injEq] at h;exact Zm 0x22e
theorem Rl:(aZ x0.fl x0.lay x0.pkg false).e=240:=oa
theorem Rj:(aZ x0.fl y00 x0.pkg true).e=220:=oa
theorem Ri:(aZ blk x0.lay x0.pkg true).e=200:=oa
theorem Ju:blk.Ok:=of_decide_eq_true oa
theorem tI (r s:Nx)(A B:Option Addr)(c d:Nat)(hr:r.x.data.length≤9223372036854775807)(hs:s.x.data.length≤9223372036854775807):
    Ctr X 17 [.agg (List.toArray [.int .i64 r.x.kind,.int .i64 r.x.sec,.int .i64 r.x.at_,.slice A r.x.data.length c,.bool r.done,.int .i64 r.e]),.agg (List.toArray [.int .i64 s.x.kind,.int .i64 s.x.sec,.int .i64 s.x.at_,.slice B s.x.data.length d,.bool s.done,.int .i64 s.e])] [Rd A (U8 r.x.data),Rd B (U8 s.x.data)] [] (fun v R' H'=>v=.bool (decide (r=s))∧R'=[]∧H'=[]):=by
 refine co Tryz.func17 ?_;intro β;apply Y 0x4a;intro A2;apply Y 0x2b;intro A3;apply Y 0xc3ec0e15e40e7cdb49;refine al (FV r.x s.x A B c d hr hs) ?_;apply Zu 0xcd0f6a8<;>intro hg10
 ·apply Y 0x41c61e440e4;refine sp (Bt rfl rfl rfl rfl) ?_;apply Y 0x48;refine L.bool 17 rfl (imp eq_of_beq ?_) ?_<;>intro hg17
  ·apply Y 0x4dd9e841c61e440e4
   exact Nx.beq hg10 hg17
  replace hg17:r.done≠s.done:=obJ;exact Zm 0xfc2f4dd9381d
 exact Zm 0xec2f4dd938cdea1d
theorem uB (f:Fl)(a:Fa)(ok:f.Ok)(hh:a.hs.length=f.data.length)(y:Lay)(G U V:Option Addr)(gc uc vc:Nat)(hyn: -1000000≤y.n∧y.n≤1000000)(hyl:y.gs.length≤1000∧y.us.length≤1000∧y.ls.length≤1000)(hcap:Caps f a)(k:Pkg)(rv:Value)(h:Bool)(OA QA HA:Option Addr)(oc qc hc:Nat)(hpl:k.pl.ops.length≤9223372036854775807∧k.pl.seq.length≤1000000∧k.pl.st.length≤1000000)(hvc:y.ls.length≤vc):
    Ctr X 18 [flV f a,.agg (List.toArray (cP y G U V gc uc vc)),.agg (List.toArray [.int .i64 k.ver,.int .i64 k.frm,.int .i64 k.pl.sz,.int .i64 k.pl.n,.bool k.pl.lf,.int .i64 k.pl.inn,.int .i64 k.pl.out,.slice OA k.pl.ops.length oc,.slice QA k.pl.seq.length qc,.slice HA k.pl.st.length hc,rv,.bool h])] (flR f a++[Rd G (I64 y.gs),Rd U (I64 y.us),Rd V (I64 y.ls),Rd OA (bZ k.pl.ops),Rd QA (I64 k.pl.seq),Rd HA (I64 k.pl.st)]) [] (fun v R' H'=>∃ (O:Option Addr) (oc:Nat),v=.agg (List.toArray [.int .i64 (aZ f y k h).x.kind,.int .i64 (aZ f y k h).x.sec,.int .i64 (aZ f y k h).x.at_,.slice O (aZ f y k h).x.data.length oc,.bool (aZ f y k h).done,.int .i64 (aZ f y k h).e])∧R'=[Rd O (U8 (aZ f y k h).x.data)]∧H'=[]):=by
 apply Y 0xe1e;intro hok;refine co Tryz.func18 ?_;intro β;apply Y 0x4a;intro A3;apply Y 0x2b;intro A4;apply Y 0x2b;intro A5;apply Y 0x98;intro A6;apply Y 0xf8904fc0e710fcfe68ebdb90eb1ea4e35e7b;refine aJ (dX f a ok hh y G U V gc uc vc hyn hyl hcap k rv h OA QA HA oc qc hc hpl hvc) ?_;apply Y 0x19;intro XA xc;apply Y 0x9848483a;intro A7;apply Y 0xd89bfa4877e68eb92e5386b;refine qrt [1] [] [_] rfl ⟨⟨_,_,0,_,rfl,rfl,Src.o 0 rfl,.inl ⟨rfl,by decide,_,rfl,rfl,rfl⟩⟩,trivial⟩ ?_;exact ⟨XA,xc,rfl,rfl,rfl⟩
theorem F3 (f:Fl)(a:Fa)(ok:f.Ok)(hh:a.hs.length=f.data.length)(y:Lay)(G U V:Option Addr)(gc uc vc:Nat)(hyn: -1000000≤y.n∧y.n≤1000000)(hyl:y.gs.length≤1000∧y.us.length≤1000∧y.ls.length≤1000)(hcap:Caps f a)(k:Pkg)(rv:Value)(h:Bool)(OA QA HA:Option Addr)(oc qc hc:Nat)(hpl:k.pl.ops.length≤9223372036854775807∧k.pl.seq.length≤1000000∧k.pl.st.length≤1000000)(hvc:y.ls.length≤vc)(m:Nat)(hm:m≤1000000):
    Ctr X 20 [flV f a,.agg (List.toArray (cP y G U V gc uc vc)),.agg (List.toArray [.int .i64 k.ver,.int .i64 k.frm,.int .i64 k.pl.sz,.int .i64 k.pl.n,.bool k.pl.lf,.int .i64 k.pl.inn,.int .i64 k.pl.out,.slice OA k.pl.ops.length oc,.slice QA k.pl.seq.length qc,.slice HA k.pl.st.length hc,rv,.bool h]),.int .i64 (m:Int)] (flR f a++[Rd G (I64 y.gs),Rd U (I64 y.us),Rd V (I64 y.ls),Rd OA (bZ k.pl.ops),Rd QA (I64 k.pl.seq),Rd HA (I64 k.pl.st)]) [] (fun v R' H'=>∃ b:Fa,b.hs.length=(bq y k h m f).f.data.length∧Caps (bq y k h m f).f b∧v=.agg (List.toArray [.int .i64 ((bq y k h m f).f.size:Int),.slice b.D (bq y k h m f).f.data.length b.cD,.slice b.W (bq y k h m f).f.wear.length b.cW,.int .i64 (bq y k h m f).f.limit,.slice b.E (bq y k h m f).f.dead.length b.cE,.int .i64 ((bq y k h m f).n:Int),.int .i64 (bq y k h m f).e])∧R'=flR (bq y k h m f).f b∧H'=[]):=by
 apply Y 0xe1e;intro hok;refine co Tryz.func20 ?_;intro β;apply Y 0x4a;intro A4;apply Y 0x2b;intro A5;apply Y 0x2b;intro A6;apply Y 0x98;intro A8;apply Y 0x6f8904fc0e710fcfe68ebdb90eb1ea4e35e7b;refine aJ (Cn f a ok hh y G U V gc uc vc hyn hyl hcap k rv h OA QA HA oc qc hc hpl hvc m hm) ?_;apply Y 0xf1e;intro b hb hbc;apply Y 0x9848483a;intro A9;apply Y 0xda3fd89bfa48810f7386b;exact ⟨b,hb,hbc,rfl,rfl,rfl⟩
theorem Cp (f:Fl)(a:Fa)(y:Lay)(G U V:Option Addr)(gc uc vc:Nat)(k:Pkg)(rv:Value)(h:Bool)(OA QA HA:Option Addr)(oc qc hc:Nat):
    Ctr X 35 [flV f a,.agg (List.toArray (cP y G U V gc uc vc)),.agg (List.toArray [.int .i64 k.ver,.int .i64 k.frm,.int .i64 k.pl.sz,.int .i64 k.pl.n,.bool k.pl.lf,.int .i64 k.pl.inn,.int .i64 k.pl.out,.slice OA k.pl.ops.length oc,.slice QA k.pl.seq.length qc,.slice HA k.pl.st.length hc,rv]),.bool h,.int .i64 (-1)] [] [] (fun v R' H'=>v=.tuple #[flV f a,.int .i64 0,.int .i64 1]∧R'=[]∧H'=[]):=by
 refine co Tryz.func35 ?_;intro β;apply Y 0x4a;intro A5;apply Y 0x2b;intro A6;apply Y 0x2b;intro A7;apply Y 0x98;intro A10;apply Zu 0xe95838<;>intro hc19
 ·apply Y 0x7;refine sp (aa (vs:=(flL f a)) rfl rfl rfl (Src.o 0 rfl) rfl rfl ob) ?_;apply Y 0x593895e;refine qrt [] [] [_,_,_] rfl ⟨⟨_,_,0,_,rfl,rfl,Src.o 3 rfl,.inl ⟨rfl,by decide,_,rfl,rfl,rfl⟩⟩,rfl,rfl,trivial⟩ ?_;exact Zm 0x53e
 exact (hc19 ob).elim
theorem vN :
    Ctr X 12 [] [] [] (fun v R' H'=>v=.bool true∧R'=[]∧H'=[]):=by
 refine co Tryz.func12 ?_;intro β;apply Y 0xd01f7c9;refine m9 (cs:=[.int .u8 0,.int .u8 3,.int .u8 9]) rfl rfl rfl rfl (Nat.zero_lt_succ _) rfl rfl rfl (fun A19=>?_);apply Y 0x430ffa;refine ba (js:=[]) (js':=[]) (sU x0 A19 none 1 0 ob ob) rfl rfl rfl ob ⟨(Has.r 0 rfl),Has.nil,trivial⟩ rfl ?_;apply Y 0xeb0f;intro c hcb hcc hcv;obtain ⟨x,hx⟩:∃ x,x=x0:=⟨_,rfl⟩;rw [← hx] at hcb hcc hcv ⊢;apply Y 0x98;intro A1;apply Y 0xc0e7c7b5b;refine sp (aa (vs:=(flL x.fl c.b)) rfl rfl rfl (Src.r 0 rfl) rfl rfl ob) ?_;apply Y 0xc0e;refine sp (aa (vs:=(cP x.lay c.G c.U c.V c.gc c.uc c.vc)) rfl rfl rfl (Src.r 0 rfl) rfl rfl ob) ?_;apply Y 0xc0ec0e;refine sp (aa (vs:=(.int .i64 5::.int .i64 4::.int .i64 (x.S:Int)::.int .i64 (x.n:Int)::.bool false::.int .i64 (x.m:Int)::.int .i64 (x.m:Int)::.slice c.O x.ops.length c.oc::.slice c.Q x.seq.length c.qc::.slice c.H x.st.length c.hc::.slice none 0 0::[])) rfl rfl rfl (Src.r 0 rfl) rfl rfl ob) ?_;refine ba (js:=[]) (js':=[]) (dX x.fl c.b x.fl_ok hcb x.lay c.G c.U c.V c.gc c.uc c.vc oE (dH x) hcc x.pkg (.slice none 0 0) true c.O c.Q c.H c.oc c.qc c.hc (dW x) hcv) rfl rfl rfl ob (Hq [1,2,3,4,5,6,7,8,9,10] rfl) rfl ?_;apply Y 0x19;intro XA1 xc1;have h1:(aZ x.fl x.lay x.pkg true).e=0∧(aZ x.fl x.lay x.pkg true).done=false∧(aZ x.fl x.lay x.pkg true).x.kind=2:=by rw [hx];exact Rm
 apply Y 0x984848;intro A2;apply Y 0x93e7c5385b;refine sp (aa (vs:=(flL x.fl c.b)) rfl rfl rfl (Src.r 2 rfl) rfl rfl ob) ?_;apply Y 0x93e;refine sp (aa (vs:=(cP x.lay c.G c.U c.V c.gc c.uc c.vc)) rfl rfl rfl (Src.r 2 rfl) rfl rfl ob) ?_;apply Y 0x93e93e;refine sp (aa (vs:=(.int .i64 5::.int .i64 4::.int .i64 (x.S:Int)::.int .i64 (x.n:Int)::.bool false::.int .i64 (x.m:Int)::.int .i64 (x.m:Int)::.slice c.O x.ops.length c.oc::.slice c.Q x.seq.length c.qc::.slice c.H x.st.length c.hc::.slice none 0 0::[])) rfl rfl rfl (Src.r 2 rfl) rfl rfl ob) ?_;refine ba (js:=[]) (js':=[]) (dX x.fl c.b x.fl_ok hcb x.lay c.G c.U c.V c.gc c.uc c.vc oE (dH x) hcc x.pkg (.slice none 0 0) false c.O c.Q c.H c.oc c.qc c.hc (dW x) hcv) rfl rfl rfl ob (Hq [3,4,5,6,7,8,9,10,11,12] rfl) rfl ?_;apply Y 0x19;intro XA2 xc2;have h2:(aZ x.fl x.lay x.pkg false).e=240:=by rw [hx];exact Rl
 apply Y 0x984848;intro A5;apply Y 0x1ae7385b;refine sp (aa (vs:=(flL x.fl c.b)) rfl rfl rfl (Src.r 3 rfl) rfl rfl ob) ?_;apply Y 0x1ae1aefa;refine sp (aa (vs:=(.int .i64 5::.int .i64 4::.int .i64 (x.S:Int)::.int .i64 (x.n:Int)::.bool false::.int .i64 (x.m:Int)::.int .i64 (x.m:Int)::.slice c.O x.ops.length c.oc::.slice c.Q x.seq.length c.qc::.slice c.H x.st.length c.hc::.slice none 0 0::[])) rfl rfl rfl (Src.r 3 rfl) rfl rfl ob) ?_;refine ba (js:=[]) (js':=[0]) (dX x.fl c.b x.fl_ok hcb y00 none none none 0 0 0 ob ob hcc x.pkg (.slice none 0 0) true c.O c.Q c.H c.oc c.qc c.hc (dW x) (Nat.le_refl _)) rfl rfl rfl ob ⟨(Has.r 4 rfl),(Has.r 5 rfl),(Has.r 6 rfl),(Has.r 7 rfl),Has.nil,Has.nil,Has.nil,(Has.r 11 rfl),(Has.r 12 rfl),(Has.r 13 rfl),trivial⟩ rfl ?_;apply Y 0x19;intro XA3 xc3;have h3:(aZ x.fl y00 x.pkg true).e=220:=by rw [hx];exact Rj
 apply Y 0x9848483a;intro A8;apply Y 0x7386b;refine L.call (js:=[]) (js':=[0,1]) (px none [] 0 40 12 0 ob ob ob ob ob) rfl rfl rfl ob ⟨Has.nil,trivial⟩ rfl ?_;apply Y 0xc50f;intro fb hfl;apply Y 0x4e0f;intro hkc;apply Y 0x3e0f;intro hkD;have hfb:fb.hs.length=blk.data.length:=hfl;have hfc:Caps blk fb:=⟨fun i hi=>by
  have hi2:i<12:=hi;have h1:=hkc i obz;rw [Raw.flD_get _ _ _ _ hi2,dS] at h1
  exact h1,hkD⟩
 refine lnr [_,_,_,_,_,_] [0,1,2,3,4,5] ?_;apply Y 0x98;intro A11;apply Y 0x7b6e0f;refine cfz 0 [1,2,3,4,5,6] ?_;refine cnr [_,_,_,_,_,_] [0,1,2,3,4,5] ?_;refine C.freezeKids 0 rfl [1,2,3,4,5] ob ob ?_;apply Y 0x6890eadea4e35ebde210fbf0f;refine sp (aa (vs:=(flL blk fb)) rfl rfl rfl (Src.r 0 rfl) rfl rfl ob) ?_;refine sp (faR 9) ?_;refine sp (aa (vs:=(cP x.lay c.G c.U c.V c.gc c.uc c.vc)) rfl rfl rfl (Src.r 9 rfl) rfl rfl ob) ?_;refine sp (faR 9) ?_;refine sp (faR 9) ?_;refine sp (aa (vs:=(.int .i64 5::.int .i64 4::.int .i64 (x.S:Int)::.int .i64 (x.n:Int)::.bool false::.int .i64 (x.m:Int)::.int .i64 (x.m:Int)::.slice c.O x.ops.length c.oc::.slice c.Q x.seq.length c.qc::.slice c.H x.st.length c.hc::.slice none 0 0::[])) rfl rfl rfl (Src.r 9 rfl) rfl rfl ob) ?_;refine ba (js:=[]) (js':=[0,1]) (dX blk fb Ju hfb x.lay c.G c.U c.V c.gc c.uc c.vc oE (dH x) hfc x.pkg (.slice none 0 0) true c.O c.Q c.H c.oc c.qc c.hc (dW x) hcv) rfl rfl rfl ob (Hq [4,3,2,1,14,15,16,17,18,19] rfl) rfl ?_;apply Y 0x19;intro XA4 xc4;have h4:(aZ blk x.lay x.pkg true).e=200:=by rw [hx];exact Ri
 apply Y 0x984848ab;intro A12;apply Y 0x5ee5eecd1f5ee104f5ee73832e;refine sp (aa (vs:=(.int .i64 5::.int .i64 4::.int .i64 (x.S:Int)::.int .i64 (x.n:Int)::.bool false::.int .i64 (x.m:Int)::.int .i64 (x.m:Int)::.slice c.O x.ops.length c.oc::.slice c.Q x.seq.length c.qc::.slice c.H x.st.length c.hc::.slice none 0 0::[])) rfl rfl rfl (Src.r 10 rfl) rfl rfl ob) ?_;refine al (Cp x.fl c.b x.lay c.G c.U c.V c.gc c.uc c.vc x.pkg (.slice none 0 0) true c.O c.Q c.H c.oc c.qc c.hc) ?_;apply Y 0x98484830ea8;intro A15;apply Y 0xb873895e;refine L.bool 83 rfl (imp fA ?_) (imp fz ?_)<;>intro hg83
 ·apply Y 0xb8b9;refine L.bool 87 rfl ?_ ?_<;>intro hg87
  ·apply Y 0x4f80f4;refine sp (ldR 8) ?_;apply Y 0xb84;refine L.bool 92 rfl (imp fA ?_) (imp fz ?_)<;>intro hg92
   ·apply Y 0xb8b9;refine L.bool 96 rfl (imp fA ?_) (imp fz ?_)<;>intro hg96
    ·apply Y 0xb8b9;refine L.bool 100 rfl (imp fA ?_) (imp fz ?_)<;>intro hg100
     ·apply Y 0xb8b9;refine L.bool 104 rfl (imp fA ?_) (imp fz ?_)<;>intro hg104
      ·apply Y 0xb8b9;refine L.bool 108 rfl (imp fA ?_) (imp fz ?_)<;>intro hg108
       ·apply Y 0xb8b9;refine L.bool 112 rfl (imp fA ?_) (imp fz ?_)<;>intro hg112
        ·apply Y 0x4cd1f45ee4104f45ee4;refine L.call (js:=[]) (js':=[0,1,2,3]) (rm true (gO (x.fl.size:Int) x.fl c.b hcb (by have:=x.fl_ok.n2;omega) x.lay c.G c.U c.V c.gc c.uc c.vc oE (dH x)) (by rw [so x.fl_ok];exact x.lay_ok)) rfl rfl rfl ob (Hq [11,12,13,14,15,16,17] rfl) rfl ?_;apply Y 0x4cd1f45ee4fa4485cea8;refine L.call (js:=[]) (js':=[0,1,2,3]) (rm false (gO 0 flz az rfl ob x.lay c.G c.U c.V c.gc c.uc c.vc oE (dH x)) (fa (fun q=>by have:=q.2.1;omega))) rfl rfl rfl ob ⟨Has.nil,Has.kids0,Has.nil,Has.nil,(Has.r 15 rfl),(Has.r 16 rfl),(Has.r 17 rfl),trivial⟩ rfl ?_;exact Zm 0x53ed9e845cea8
        exact (hg112 rfl).elim
       exact (hg108 rfl).elim
      exact (hg104 h4).elim
     exact (hg100 h3).elim
    exact (hg96 h2).elim
   exact (hg92 h1.2.2).elim
  rw [h1.2.1] at hg87
  cases hg87
 exact (hg83 h1.1).elim
end Go.Proofs.YtbpddeiogcgegaaGreat
namespace Go.Sl
structure Brk where
  a:UInt8
  M:Option Addr
  mc:Nat
  k:List UInt8
def Brk.zero:Brk:=⟨0,none,0,[]⟩
def Brk.cells (x:Brk):List Value:=[.int .u8 (x.a.toNat:Int),.slice x.M x.k.length x.mc]
def pW (l:List Brk):List Value:=l.flatMap Brk.cells
def np (l:List Brk):List Hd:=l.map fun x=>(x.M,x.mc)
def pX (l:List Brk):List (List UInt8):=l.map Brk.k
theorem vq (l:List Brk):(pW l).length=l.length*2:=by
 induction l with
 |nil=>rfl
 |cons r l ih=>rw [show pW (r::l)=r.cells++pW l from rfl,List.length_append,ih];simp [Brk.cells];omega
theorem AL:∀ (l:List Brk) (k:Nat),k<l.length→((pW l).drop (k*2)).take 2=(l.getD k Brk.zero).cells
  |[],_,h=>absurd h (Nat.not_lt_zero _)
  |_::_,0,_=>rfl
  |_::l,k+1,h=>by
    rw [show (k+1)*2=k*2+2 from by omega]
    exact AL l k qD
theorem m0 {l:List Brk}{k:Nat}(hk:k<l.length):0<(pW l).length:=by rw [vq];omega
theorem m3 {l:List Brk}{k q:Nat}(hk:k<l.length)(hq:q<2):(pW l)[k*2+q]?=(l.getD k Brk.zero).cells[q]?:=by
 have h:=AL l k hk;exact Zm 0x602f
theorem DT (l:List Brk)(k:Nat):(pX l).getD k []=(l.getD k Brk.zero).k:=by
 unfold pX
 by_cases h:k<l.length
 ·exact Zm 0x331f
 exact Zm 0x702f
theorem DU (l:List Brk)(k:Nat):(np l).getD k (none,0)=((l.getD k Brk.zero).M,(l.getD k Brk.zero).mc):=by
 unfold np
 by_cases h:k<l.length
 ·exact Zm 0x331f
 exact Zm 0x702f
end Go.Sl
