/-
  Part of a proof.
-/
import Derived.Test.YtbpddeiogcgegaaGreatVSlMi
set_option maxHeartbeats 0
set_option maxRecDepth 4000
set_option linter.all false
section
namespace Go.Sl
structure Raw where
  l:List T3
  w0:UInt8
  w1:UInt8
  w2:UInt8
  w3:UInt8
  old:List UInt8
namespace Raw
variable (x:Raw)
def S:Nat:=40+x.w0.toNat%36
def n:Nat:=1+x.w1.toNat%4
def sg:Nat:=1+x.w2.toNat%2
def m:Nat:=x.n*x.S
def img:List UInt8:=nm x.old x.m
def ops:List Po:=ptF x.m x.l
def seq:List Int:=NI (mkQ (ah x.ops) (x.m:Int) x.S x.n)
def st:List Int:=NI (mkH (ah x.ops) (x.m:Int) x.S x.n)
def pln:Pln:=⟨(x.S:Int),(x.n:Int),false,(x.m:Int),(x.m:Int),x.ops,x.seq,x.st⟩
def new:List UInt8:=bg x.img (ah x.ops)
def nd:Nd:=e9 false (x.S:Int) (x.n:Int) (x.m:Int) (x.m:Int) x.ops x.seq x.st x.img
def u:Nat:=ndU (ndT x.img x.new x.S x.seq) x.S
def more:Nat:=4+x.sg+x.u+x.st.length
def lay:Lay:=⟨(x.n:Int),(x.n:Int),((x.n:Nat):Int)+1,((x.n:Nat):Int)+2,((x.n:Nat):Int)+3,upI (x.n+4) x.sg,upI (x.n+4+x.sg) x.u,upI (x.n+4+x.sg+x.u) x.st.length⟩
def dirt (d:List (List UInt8))(n S:Nat)(w:UInt8):Nat→List (List UInt8)
  |0=>d
  |k+1=>(dirt d n S w k).set (n+k) (((dirt d n S w k).getD (n+k) []).set ((n+k)%S) w)
def dirts:Nat:=if x.w3.toNat%2=1 then x.more else 0
def dat:List (List UInt8):=dirt (flD x.img x.S x.n (x.n+x.more)) x.n x.S x.w3 x.dirts
def fl0:Fl:=⟨x.S,x.dat,List.replicate (x.n+x.more) 0,100000,List.replicate (x.n+x.more) false⟩
def s0:List Int:=[1,0,0,0,0,0,0,5,4]
def fl:Fl:=(bG x.fl0 (x.n:Int) ((x.n:Int)+1) s0).1
def pkg:Pkg:=⟨5,4,x.pln⟩
theorem S_le:40≤x.S∧x.S≤75:=by unfold S;omega
theorem n_le:1≤x.n∧x.n≤4:=by unfold n;omega
theorem sg_le:1≤x.sg∧x.sg≤2:=by unfold sg;omega
theorem m_le:40≤x.m∧x.m≤300:=by
 apply Y 0x9be;intro h1;apply Y 0xabe;intro h2;have a:1*40≤x.n*x.S:=Nat.mul_le_mul h2.1 h1.1;have b:x.n*x.S≤4*75:=Nat.mul_le_mul h2.2 h1.2
 unfold m;exact Zm 0x18
theorem img_len:x.img.length=x.m:=uO _ _
theorem ops_len:x.ops.length≤9:=yD
theorem chk:cG (x.m:Int) (x.m:Int) x.ops=0:=yC (by have:=x.m_le;omega)
theorem siz:kN (x.S:Int) (x.n:Int) (x.m:Int) (x.m:Int)=true:=by
 apply Y 0x9be;intro h1;apply Y 0xabe;intro h2;refine dB.2 ⟨by omega,by omega,by omega,by omega,?_,?_⟩<;> · unfold m;rw [Int.natCast_mul,Int.mul_comm];exact Int.le_refl _
theorem chg_len:(aL (ah x.ops) (x.m:Int) x.S x.n).length≤4:=by
 have h:=gE (ah x.ops) (x.m:Int) x.S x.n;apply Y 0xabe;intro h2;exact Zm 0x18
theorem mkE0:mkE false (x.m:Int) (x.m:Int) (x.S:Int) (x.n:Int) x.ops x.m=0:=
  I1 x.chk rfl x.siz rfl (by rw [Int.toNat_natCast,Int.toNat_natCast];have:=x.chg_len;omega)
theorem mkP0:mkP false (x.m:Int) (x.m:Int) (x.S:Int) (x.n:Int) x.ops x.m=⟨(x.S:Int),(x.n:Int),false,(x.m:Int),(x.m:Int),x.ops,x.seq,x.st⟩:=by
 have h:=E4 x.mkE0;rw [Int.toNat_natCast,Int.toNat_natCast] at h;exact Zm 0x22e
theorem vld:eN false (x.S:Int) (x.n:Int) (x.m:Int) (x.m:Int) x.ops x.seq x.st=true:=by
 have h:=IY x.mkE0;rw [Int.toNat_natCast,Int.toNat_natCast] at h;exact Zm 0x22e
theorem seq_len:x.seq.length≤4:=by
 have h:=(xf x.vld).1;rw [Int.toNat_natCast,Int.toNat_natCast] at h;have:=x.chg_len;exact Zm 0x18
theorem st_len:x.st.length≤16:=by
 have h:=(GE (lf:=false) (inn:=(x.m:Int)) (out:=(x.m:Int)) (sz:=(x.S:Int)) (n:=(x.n:Int)) (ops:=x.ops) (ol:=x.m)).2.2;rw [x.mkP0] at h;exact Zm 0x22e
theorem zi (old new:List UInt8)(S:Nat)(seq:List Int):∀ i,ndT old new S (seq.take i)≤(5+5*S)*i
  |0=>by simp [ndT]
  |i+1=>by
    have h:=zi old new S seq i
    by_cases hi:i<seq.length
    · rw [mB hi,Nat.mul_succ]
      have:=zk (old:=old) (new:=new) (S:=S) (seq.getD i 0)
      omega
    · rw [List.take_of_length_le oe] at h ⊢
      exact Nat.le_trans h (Nat.mul_le_mul_left _ oe)
theorem T_le:ndT x.img x.new x.S x.seq≤20*(1+x.S):=by
 have h:=zi x.img x.new x.S x.seq x.seq.length;rw [List.take_length] at h;have h2:(5+5*x.S)*x.seq.length≤(5+5*x.S)*4:=Nat.mul_le_mul_left _ x.seq_len;exact Zm 0x18
theorem u_le:x.u≤22:=by
 have h:=x.T_le;apply Y 0x9be;intro h2
 unfold u ndU;refine Nat.le_of_lt_succ ((Nat.div_lt_iff_lt_mul oe).2 ?_);exact Zm 0x18
theorem ndE0:dQ false (x.S:Int) (x.n:Int) (x.m:Int) (x.m:Int) x.ops x.seq x.st x.img=0:=by
 refine zg x.vld (by rw [x.img_len]) ?_;rw [Int.toNat_natCast];have h:=x.T_le;apply Y 0x9be;intro h2
 show ndT x.img x.new x.S x.seq≤65535;exact Zm 0x18
theorem nd_eq:x.nd=nd5 x.u x.st.length x.seq.length x.S (ndG x.img x.new x.S x.seq):=by
 unfold nd;rw [mz x.ndE0,Int.toNat_natCast];exact Zm 0x2
theorem nd_u:x.nd.u=(x.u:Int):=by rw [x.nd_eq];rfl
theorem nd_s:x.nd.s=(x.st.length:Int):=by rw [x.nd_eq];rfl
theorem more_le:5≤x.more∧x.more≤44:=by
 apply Y 0xb50f;intro h1;apply Y 0x720f;intro h2;apply Y 0xa50f;intro h3
 unfold more;exact Zm 0x18
section
variable {d:List (List UInt8)}{n S:Nat}{w:UInt8}
theorem dirt_len:∀ k,(dirt d n S w k).length=d.length
  |0=>rfl
  |k+1=>by rw [dirt,List.length_set,dirt_len k]
theorem dirt_row {i:Nat}:∀ k,((dirt d n S w k).getD i []).length=(d.getD i []).length
  |0=>rfl
  |k+1=>by
    rw [dirt]
    by_cases h:n+k=i
    · subst h
      by_cases hl:n+k<(dirt d n S w k).length
      · rw [aQ hl,List.length_set]
        exact dirt_row k
      · rw [List.set_eq_of_length_le oe]
        exact dirt_row k
    · rw [List.getD_eq_getElem?_getD,List.getElem?_set_ne h,← List.getD_eq_getElem?_getD]
      exact dirt_row k
end
theorem flD_get (b:List UInt8)(S n k:Nat){i:Nat}(h:i<k):(flD b S n k).getD i []=flC b S n i:=ak h _
theorem dat_len:x.dat.length=x.n+x.more:=by unfold dat;rw [dirt_len,cX]
theorem dat_row {i:Nat}(h:i<x.n+x.more):(x.dat.getD i []).length=x.S:=by
 unfold dat;rw [dirt_row,flD_get _ _ _ _ h,dS]
theorem fl0_ok:x.fl0.Ok:=by
 apply Y 0x9be;intro h1;apply Y 0xabe;intro h2;apply Y 0x950f;intro h3;refine ⟨by show 1≤x.S;omega,by show x.S≤4096;omega,by show 1≤x.dat.length;rw [x.dat_len];omega,by show x.dat.length≤64;rw [x.dat_len];omega,by show (List.replicate _ (0:Int)).length=x.dat.length;rw [x.dat_len,List.length_replicate],by show (List.replicate _ false).length=x.dat.length;rw [x.dat_len,List.length_replicate],fun i hi=>?_,by show (1:Int)≤100000;decide,by show (100000:Int)≤100000;decide,fun i hi=>?_⟩
 ·have hi':i<x.dat.length:=hi;rw [x.dat_len] at hi'
  exact x.dat_row hi'
 have hi':i<x.dat.length:=hi;rw [x.dat_len] at hi'
 show 0≤(List.replicate (x.n+x.more) (0:Int)).getD i 0∧(List.replicate (x.n+x.more) (0:Int)).getD i 0≤100000;rw [dI _ _ _ _ hi'];exact Zm 0x2ae
theorem Ck:aI s0=true:=ob
theorem fits0:cY x.fl0 (x.n:Int) ((x.n:Int)+1)=true:=by
 apply Y 0x9be;intro h1;apply Y 0xabe;intro h2;apply Y 0x950f;intro h3;have h4:=x.dat_len;refine decide_eq_true ⟨by omega,by omega,by omega,?_,?_,?_⟩
 ·show (x.n:Int)<(x.dat.length:Int);exact Zm 0x18
 ·show (x.n:Int)+1<(x.dat.length:Int);exact Zm 0x18
 show 38≤x.S;exact Zm 0x18
theorem fresh0 {s:List Int}(hs:aI s=true):(bG x.fl0 (x.n:Int) ((x.n:Int)+1) s).2=0∧Fresh x.fl0 (x.n:Int) ((x.n:Int)+1) s (bG x.fl0 (x.n:Int) ((x.n:Int)+1) s).1:=by
 have hd:∀ i,x.fl0.dead.getD i false=false:=fun i=>by
  apply Y 0x774f
  by_cases hi:i<x.n+x.more
  ·exact Zm 0xc90f
  exact Zm 0xb90f
 have hw:∀ i,x.fl0.wear.getD i 0=0:=fun i=>by
  apply Y 0x674f
  by_cases hi:i<x.n+x.more
  ·exact Zm 0xc90f
  exact Zm 0xb90f
 exact ig x.fl0_ok x.fits0 hs ⟨hd _,hd _⟩ ⟨by rw [hw];show (0:Int)<100000;decide,by rw [hw];show (0:Int)<100000;decide⟩
theorem fl_fresh:Fresh x.fl0 (x.n:Int) ((x.n:Int)+1) s0 x.fl:=(x.fresh0 Ck).2
theorem fl_ok:x.fl.Ok:=x.fl_fresh.ok
theorem fl_size:x.fl.size=x.S:=x.fl_fresh.sz
theorem fl_len:x.fl.data.length=x.n+x.more:=x.fl_fresh.n.trans x.dat_len
theorem rest_eq:x.lay.rest=upI x.n x.more:=by
 unfold lay Lay.rest upI more;apply Y 0x84e;refine List.ext_getElem qb fun i h1 h2=>?_
 simp only [List.length_map,List.length_range] at h2
 simp only [List.getElem_map,List.getElem_range]
 by_cases a:i<4
 ·have:i=0∨i=1∨i=2∨i=3:=oe
  rcases this with rfl|rfl|rfl|rfl<;>simp<;>omega
 by_cases b:i<4+x.sg
 ·rw [List.getElem_append_left qb,List.getElem_append_left qb,List.getElem_append_right qb]
  simp;exact Zm 0x18
 by_cases c:i<4+x.sg+x.u
 ·rw [List.getElem_append_left qb,List.getElem_append_right qb]
  simp;exact Zm 0x18
 rw [List.getElem_append_right qb]
 simp;exact Zm 0x18
theorem lay_ok:eJ x.fl x.lay=true:=by
 apply Y 0x9be;intro h1;apply Y 0xabe;intro h2;apply Y 0x950f;intro h3;apply Y 0xa50f;intro h4;have h5:=x.fl_len
 unfold eJ;rw [Bool.and_eq_true,decide_eq_true_eq,decide_eq_true_eq];refine ⟨x.fl_ok,by rw [x.fl_size];omega,by show (1:Int)≤(x.n:Int);omega,by show (x.n:Int)≤_;rw [h5];omega,by show 1≤(upI _ _).length;rw [eT];omega,by show (upI _ _).length≤8;rw [eT];omega,fun v hv=>?_,?_⟩
 ·rw [x.rest_eq] at hv;obtain ⟨i,hi,rfl⟩:=List.mem_map.1 hv;rw [List.mem_range] at hi;rw [h5]
  show (x.n:Int)≤_∧_;exact Zm 0x18
 rw [x.rest_eq]
 unfold upI;rw [List.nodup_iff_pairwise_ne,List.pairwise_map]
 exact (List.nodup_iff_pairwise_ne.1 List.nodup_range).imp fun h=>by omega
end Raw
end Go.Sl
end
namespace Go.Proofs.YtbpddeiogcgegaaGreat
open Go.Sl
theorem yS (LA:Option Addr)(l:List T3)(lc n:Nat)(hl:l.length≤9223372036854775807)(hn:1≤n∧n≤1000):
    Ctr X 38 [.slice LA l.length lc,.int .i64 (n:Int)] [Rd LA (jj l)] [] (fun v R' H'=>∃ (OA:Option Addr) (oc:Nat),v=.agg (List.toArray [.bool false,.int .i64 (n:Int),.int .i64 (n:Int),.slice OA (ptF n l).length oc])∧R'=[Rd OA (bZ (ptF n l))]∧H'=[]):=by
 refine co Tryz.func38 ?_;intro β;apply Y 0x987;intro A4;apply Y 0x98faf988;intro A5;apply Y 0xad7b6b;refine C.nil_own 157 5 ?_;refine lp [0,1,4,5] [_,_,_,_] (fun q:Nat×Option Addr×Nat=>[(6,.int .i64 (q.1:Int))]) (kz [_]) (fun q=>[Own 40 4 A4 1 1 [.bool false,.int .i64 0,.int .i64 0,.slice none 0 0],Own 40 4 A5 1 1 [.bool false,.int .i64 (n:Int),.int .i64 ((ptS n l q.1).2:Nat),.slice q.2.1 (ptS n l q.1).1.length q.2.2],Own 157 5 q.2.1 (ptS n l q.1).1.length q.2.2 (bZ (ptS n l q.1).1)]) (fun q=>q.1≤min l.length 8) (fun q=>min l.length 8-q.1) (0,none,0) (Nat.zero_le _) (lk [0] [0,1,2]) ?_;apply Y 0x72e;intro i A c hi
 dsimp only at hi ⊢;apply Zu 0xa71fb8bd<;>intro
 ·apply Zu 0x503fb8b9<;>intro
  ·apply Zu 0xe9b96ee491e4<;>intro
   ·apply Y 0x589;have hi2:i<l.length∧i<8:=oe;have hb8:(l.getD i (0,0,0)).2.2.toNat<256:=UInt8.toNat_lt _;have hon:(ptS n l i).2<n:=oe;apply Y 0xab0f;intro ho1 ho2;have hln:=ES (x:=(l.getD i (0,0,0))) hon;have hL:1≤ptL (l.getD i (0,0,0))∧ptL (l.getD i (0,0,0))≤40:=by unfold ptL;omega
    have hmod:((l.getD i (0,0,0)).2.2.toNat*3%n)<n:=Nat.mod_lt _ oe;have hgo:=ER (l:=l) (i:=i) hon;apply Y 0x2a6d;refine sq (cf (k:=i) (m:=i*3) rfl rfl rfl rfl rfl rfl oe (Src.r 0 rfl) (ji (k:=i) oe) rfl) ?_;refine sq (aC (k:=1) (m:=i*3+1) rfl rfl rfl rfl rfl rfl ob (Src.r 0 rfl) (ji (k:=i) oe) rfl) ?_;refine sq (Ev.load rfl rfl rfl (Src.r 0 rfl) ((iF (i:=i) (j:=1) oe ob).trans rfl)) ?_;apply Y 0x190f;refine sq (Ev.cast (u:=.int .i64 ((((l.getD i (0,0,0)).2.1.toNat%40):Nat):Int)) (Ev.rem rfl rfl oe ob) (congrArg (Value.int .i64) OT)) ?_;refine sq (Ev.cast (u:=.int .i64 (((ptL (l.getD i (0,0,0))):Nat):Int)) (Ev.add rfl rfl oe oe) (congrArg (Value.int .i64) (by unfold ptL;omega))) ?_;apply Y 0x490f390ffc;refine sq (Ev.cast (u:=.int .i64 (((n-(ptS n l i).2):Nat):Int)) (Ev.sub rfl rfl oe oe) (congrArg (Value.int .i64) oe)) ?_;refine sq (Ev.cast (u:=.int .i64 (((min (ptL (l.getD i (0,0,0))) (n-(ptS n l i).2)):Nat):Int)) (Ev.pure rfl) (congrArg (Value.int .i64) QJ)) ?_;apply Y 0x98fa1f3f8e3f411fb8780e;intro A8;apply Zu 0x791bc3ffe3f4e3f411fbd8895e<;>intro
    ·apply Y 0x9fe1f3f8e3f411f2d;refine sp (Ev.cast (u:=.int .i64 ((((l.getD i (0,0,0)).2.2.toNat*3):Nat):Int)) (Ev.mul rfl rfl oe oe) (congrArg (Value.int .i64) oe)) ?_;apply Y 0x6;refine sp (Ev.cast (u:=.int .i64 ((((l.getD i (0,0,0)).2.2.toNat*3%n):Nat):Int)) (Ev.rem rfl rfl oe oe) (congrArg (Value.int .i64) (Int.natCast_emod _ _).symm)) ?_;apply Zu 0xec1bc3ffe3f4e3f411fbd1<;>intro
     ·have hbk:(ptO n (ptS n l i).2 (l.getD i (0,0,0)))=⟨1,((ptS n l i).2:Int),((min (min (ptL (l.getD i (0,0,0))) (n-(ptS n l i).2)) (n-(ptS n l i).2):Nat):Int),0⟩:=by unfold ptO;rw [if_pos oe,show ptR n (ptS n l i).2 (l.getD i (0,0,0))=(ptS n l i).2 from if_pos oe]
      apply Y 0xe01f489c1da68;refine sp (Ev.cast (u:=.int .i64 (((min (min (ptL (l.getD i (0,0,0))) (n-(ptS n l i).2)) (n-(ptS n l i).2)):Nat):Int)) (Ev.pure rfl) (congrArg (Value.int .i64) QJ)) ?_;apply Y 0xa81f1e1fda68c61f7b95efa;intro A83;apply Y 0x371f;intro A84 cc84;exact Zm 0x6a1f8afdbbfc1f8ee73eda6888bb
     have hbk:(ptO n (ptS n l i).2 (l.getD i (0,0,0)))=⟨1,((((l.getD i (0,0,0)).2.2.toNat*3%n):Nat):Int),((min (min (ptL (l.getD i (0,0,0))) (n-(ptS n l i).2)) (n-((l.getD i (0,0,0)).2.2.toNat*3%n)):Nat):Int),0⟩:=by unfold ptO;rw [if_pos oe,show ptR n (ptS n l i).2 (l.getD i (0,0,0))=((l.getD i (0,0,0)).2.2.toNat*3%n) from if_neg oe]
     apply Y 0x489c99;refine sp (Ev.cast (u:=.int .i64 (((n-((l.getD i (0,0,0)).2.2.toNat*3%n)):Nat):Int)) (Ev.sub rfl rfl oe oe) (congrArg (Value.int .i64) oe)) ?_;refine sp (Ev.cast (u:=.int .i64 (((min (min (ptL (l.getD i (0,0,0))) (n-(ptS n l i).2)) (n-((l.getD i (0,0,0)).2.2.toNat*3%n))):Nat):Int)) (Ev.pure rfl) (congrArg (Value.int .i64) QJ)) ?_;apply Y 0xa81f1e1fda68c61f7b95efa;intro A83;apply Y 0x371f;intro A84 cc84;exact Zm 0x6a1f8afdbbfc1f8ee73eda6888bb
    have hbk:(ptO n (ptS n l i).2 (l.getD i (0,0,0)))=⟨3,0,((min (ptL (l.getD i (0,0,0))) (n-(ptS n l i).2)):Nat),(l.getD i (0,0,0)).2.2⟩:=by unfold ptO;rw [if_neg oe]
    apply Y 0xa81f1e1fda68c61f9d;intro A83;apply Y 0x371f;intro A84 cc84;exact Zm 0x6a1f8afdbbfc1f8ee73eda6888bb
   apply Y 0xab0f55a9;intro ho1 ho2;apply Zu 0xe9da68<;>intro
   ·apply Y 0xb81ffae01fda6dada7;intro A105;apply Y 0x271f;intro A106 cc106;apply Y 0xbcd89bf4e788bb2c88bb
    exfalso;exact Zm 0x18
   apply Y 0xbc5f0f1eed89bf4e3c;have hB:ptS n l (min l.length 8)=ptS n l i:=by first|(rw [show min l.length 8=i by omega])|exact jJ oe oe
   apply Y 0xe31f;intro hF;rw [hF];apply Y 0x831f;intro ho;apply Y 0x102f5f1f;rw [ho]
  apply Y 0x139;refine C.cond rfl (fun h=>by cases h) (fun _=>?_);apply Y 0xab0f55a9;intro ho1 ho2;apply Zu 0xe9da68<;>intro
  ·apply Y 0xb81ffae01fda6dada7;intro A105;apply Y 0x271f;intro A106 cc106;apply Y 0xd89bf4e788bb2c88bb;refine qfz 2 [0,1,3] ?_;apply Y 0xbc3a1f;have hB:ptS n l (min l.length 8)=ptS n l i:=by first|(rw [show min l.length 8=i by omega])|exact jJ oe oe
   apply Y 0xf42f;intro hF;rw [hF];rw [List.length_append,mm];exact ⟨A106,cc106,rfl,rfl,rfl⟩
  apply Y 0xbc5f0f1eed89bf4e3c;have hB:ptS n l (min l.length 8)=ptS n l i:=by first|(rw [show min l.length 8=i by omega])|exact jJ oe oe
  apply Y 0xe31f;intro hF;rw [hF];apply Y 0x831f;intro ho;apply Y 0x102f5f1f;rw [ho]
 apply Y 0x1eadd;refine C.cond rfl (fun h=>by cases h) (fun _=>?_);apply Y 0xab0f55a9;intro ho1 ho2;apply Zu 0xe9da68<;>intro
 ·apply Y 0xb81ffae01fda6dada7;intro A105;apply Y 0x271f;intro A106 cc106;apply Y 0xd89bf4e788bb2c88bb;refine qfz 2 [0,1,3] ?_;apply Y 0xbc3a1f;have hB:ptS n l (min l.length 8)=ptS n l i:=by first|(rw [show min l.length 8=i by omega])|exact jJ oe oe
  apply Y 0xf42f;intro hF;rw [hF];rw [List.length_append,mm];exact ⟨A106,cc106,rfl,rfl,rfl⟩
 apply Y 0xbc5f0f1eed89bf4e3c;have hB:ptS n l (min l.length 8)=ptS n l i:=by first|(rw [show min l.length 8=i by omega])|exact jJ oe oe
 apply Y 0xe31f;intro hF;rw [hF];apply Y 0x831f;intro ho;apply Y 0x102f5f1f;rw [ho]
theorem px (BA:Option Addr)(b:List UInt8)(bc S n k:Nat)(hbl:b.length≤1000000)(hS1:1≤S)(hS2:S≤4096)(hn2:n≤64)(hk2:k≤100):
    Ctr X 34 [.slice BA b.length bc,.int .i64 (S:Int),.int .i64 (n:Int),.int .i64 (k:Int)] [Rd BA (U8 b)] [] (fun v R' H'=>∃ f:Fa,v=.agg (List.toArray [.int .i64 (S:Int),.slice f.D (n+k) f.cD,.slice f.W (n+k) f.cW,.int .i64 1000,.slice f.E (n+k) f.cE])∧R'=[]∧H'=[Own 24 1 f.D (n+k) f.cD (ay f.hs (B8 (flD b S n (n+k)))),au 5 f.hs (B8 (flD b S n (n+k))),Own 3 1 f.W (n+k) f.cW (I64 (List.replicate (n+k) 0)),Own 4 1 f.E (n+k) f.cE (Bs (List.replicate (n+k) false))]∧f.hs.length=n+k):=by
 refine co Tryz.func34 ?_;intro β;apply Y 0x987;intro A8;apply Y 0x98faf988;intro A9;apply Y 0x57b6b;refine iu 24 1 ?_;apply Y 0x230f;refine iu 4 1 ?_;apply Y 0xba168;refine C.kids0 5 ?_;refine lp [0,1,2,3,8,9] [_,_,_,_,_,_] (fun q:Nat×Fa=>[(10,.int .i64 (q.1:Int))]) (kz [_]) (fun q=>[Own 34 5 A8 1 1 [.int .i64 0,.slice none 0 0,.slice none 0 0,.int .i64 0,.slice none 0 0],Own 34 5 A9 1 1 [.int .i64 (S:Int),.slice q.2.D q.1 q.2.cD,.slice q.2.W q.1 q.2.cW,.int .i64 1000,.slice q.2.E q.1 q.2.cE],Own 24 1 q.2.D q.1 q.2.cD (ay q.2.hs (B8 (flD b S n q.1))),au 5 q.2.hs (B8 (flD b S n q.1)),Own 3 1 q.2.W q.1 q.2.cW (I64 (List.replicate q.1 0)),Own 4 1 q.2.E q.1 q.2.cE (Bs (List.replicate q.1 false))]) (fun q=>q.1≤n+k∧q.2.hs.length=q.1) (fun q=>n+k-q.1) (0,⟨none,0,[],none,0,none,0⟩) ⟨Nat.zero_le _,rfl⟩ (lk [0] [0,1,2,5,3,4]) ?_;apply Y 0xa20f;intro t f ht hh
 dsimp only at ht hh ⊢;apply Zu 0x791cab858<;>intro
 ·apply Y 0x589;have htS:t*S≤200*4096:=Nat.mul_le_mul oe hS2;apply Y 0x9c;refine L.call (js:=[]) (js':=[0,1,2,3,4,5]) (dp none [] 0 t S (by first|omega|exact Nat.zero_le _) oe oe hS1 hS2) rfl rfl rfl ob ⟨Has.nil,trivial⟩ rfl ?_;apply Y 0x19;intro A23 c23;refine lnr [_,_,_,_,_,_,_] [0,1,2,3,4,5,6] ?_;apply Y 0x1;refine eK (fun z:Option Addr×Nat=>[(0,.slice BA b.length bc),(1,.int .i64 (S:Int)),(2,.int .i64 (n:Int)),(3,.int .i64 (k:Int)),(8,ag A8 0),(9,ag A9 0),(10,.int .i64 (t:Int)),(11,.slice z.1 S z.2)]) (fun z:Option Addr×Nat=>[Rd BA (U8 b)]) (fun z:Option Addr×Nat=>[Own 34 5 A8 1 1 [.int .i64 0,.slice none 0 0,.slice none 0 0,.int .i64 0,.slice none 0 0],Own 34 5 A9 1 1 [.int .i64 (S:Int),.slice f.D t f.cD,.slice f.W t f.cW,.int .i64 1000,.slice f.E t f.cE],Own 24 1 f.D t f.cD (ay f.hs (B8 (flD b S n t))),au 5 f.hs (B8 (flD b S n t)),Own 3 1 f.W t f.cW (I64 (List.replicate t 0)),Own 4 1 f.E t f.cE (Bs (List.replicate t false)),Own 5 1 z.1 S z.2 (U8 (flC b S n t))]) (fun z:Option Addr×Nat=>True) ?_ ?_
  ·apply Zu 0x79e87<;>intro
   ·apply Y 0xb868;refine al (dp BA b bc t S (by first|omega|exact Nat.zero_le _) oe oe hS1 hS2) ?_;apply Y 0x19;intro A30 c30;refine lnr [_,_,_,_,_,_,_,_] [0,1,2,3,4,5,6,7] ?_;apply Y 0xd1e;refine QE.join ((A30,c30)) Oz (by exact lk [0] [2,3,4,5,6,7,0] (hh:=⟨rfl,rfl,rfl,rfl,rfl,rfl,(congrArg some (ax rfl (by unfold flC;rw [if_pos oe]))),trivial⟩))
   apply Y 0x5a;refine QE.join ((A23,c23)) Oz (by exact lk [0] [1,2,3,4,5,6,0] (hh:=⟨rfl,rfl,rfl,rfl,rfl,rfl,(congrArg some (ax rfl (by unfold flC;rw [if_neg oe]))),trivial⟩))
  rintro ⟨YA,yc⟩ _;apply Y 0x3b6da784e;intro A34;refine L.append (j:=2) rfl rfl rfl rfl ob rfl rfl rfl rfl (Src.o 7 rfl) rfl (by intro v hv;simp at hv;subst hv;rfl) oe Qj rfl (fun A35 cc35=>?_);apply Y 0x3bda788bb;intro A39;refine L.append (j:=4) rfl rfl rfl rfl ob rfl rfl rfl rfl (Src.o 8 rfl) rfl (by intro v hv;simp at hv;subst hv;rfl) oe oY rfl (fun A40 cc40=>?_);apply Y 0x3bda6888bb;intro A44;refine L.append (j:=5) rfl rfl rfl rfl ob rfl rfl rfl rfl (Src.o 9 rfl) rfl (by intro v hv;simp at hv;subst hv;rfl) oe oJ rfl (fun A45 cc45=>?_);apply Y 0x8afdbb;refine QE.absorb 3 6 rfl rfl [0,1,2,4,5,7,8,9] ob ?_;have hD:=Dt b S n t;have hcl:=dS b S n t;refine QE.round (i:=(t,f)) ((t+1,⟨A35,cc35,f.hs++[(YA,yc)],A40,cc40,A45,cc45⟩)) (by exact ⟨by dsimp only;omega,by dsimp only;rw [List.length_append,hh];rfl⟩) ou (by exact lk [0] [1,2,3,0,4,5] (hh:=⟨rfl,rfl,(congrArg some (ax rfl (by dsimp only;rw [hD,← nM (by rw [cX];exact hh),hcl]))),(congrArg some (by dsimp only;rw [hD,← BD])),(congrArg some (ax rfl (by dsimp only;rw [List.replicate_succ',← c5];rfl))),(congrArg some (ax rfl (by dsimp only;rw [List.replicate_succ',← LK];rfl))),trivial⟩))
 apply Y 0xd89bf4e7a9;refine qrt [] [2,3,4,5] [_] rfl ⟨⟨_,_,0,_,rfl,rfl,Src.o 0 rfl,.inl ⟨rfl,by decide,_,rfl,rfl,rfl⟩⟩,trivial⟩ ?_;obtain rfl:t=n+k:=oe;exact ⟨f,rfl,rfl,rfl,hh⟩
theorem v8 (n w0 w1:Nat)(w2:Int)(hn:n≤1000)(hw0:w0≤1000)(hw1:w1≤1000)(hw2:w2≤1000):
    Ctr X 40 [.int .i64 (n:Int),.agg (List.toArray [.int .i64 (w0:Int),.int .i64 (w1:Int),.int .i64 w2])] [] [] (fun v R' H'=>∃ (G U L:Option Addr) (gc uc lc:Nat),v=.agg (List.toArray [.int .i64 (n:Int),.int .i64 (n:Int),.int .i64 ((n:Int)+1),.int .i64 ((n:Int)+2),.int .i64 ((n:Int)+3),.slice G w0 gc,.slice U w1 uc,.slice L w2.toNat lc])∧R'=[]∧H'=[Own 3 1 G w0 gc (I64 (upI (n+4) w0)),Own 3 1 U w1 uc (I64 (upI (n+4+w0) w1)),Own 3 1 L w2.toNat lc (I64 (upI (n+4+w0+w1) w2.toNat))]):=by
 refine co Tryz.func40 ?_;intro β;apply Y 0x4a;intro A3;apply Y 0x98;intro A4;apply Y 0x2cebdb7b;refine sp (Ev.cast (u:=.int .i64 (((n+4):Nat):Int)) (Ev.add rfl rfl oe oe) (congrArg (Value.int .i64) oe)) ?_;apply Y 0x98fad01fca6ca6d01fcab871;intro A6;apply Y 0xba168230f230f230f57b6b;refine lp [0,3,4,6] [_,_,_,_] (fun q:Nat×Option Addr×Nat=>[(7,.int .i64 (q.1:Int)),(5,.int .i64 (((n+4)+q.1:Nat):Int))]) (kz [_]) (fun q=>[Own 37 8 A4 1 1 [.int .i64 0,.int .i64 0,.int .i64 0,.int .i64 0,.int .i64 0,.slice none 0 0,.slice none 0 0,.slice none 0 0],Own 37 8 A6 1 1 [.int .i64 (n:Int),.int .i64 (n:Int),.int .i64 ((n:Int)+1),.int .i64 ((n:Int)+2),.int .i64 ((n:Int)+3),.slice q.2.1 q.1 q.2.2,.slice none 0 0,.slice none 0 0],Own 3 1 q.2.1 q.1 q.2.2 (I64 (upI (n+4) q.1)),Own 3 1 none 0 0 [],Own 3 1 none 0 0 []]) (fun q=>q.1≤w0) (fun q=>w0-q.1) (0,none,0) (Nat.zero_le _) (lk [0] [0,1,2,3,4]) ?_;apply Y 0x72e;intro i GA gc hi
 dsimp only at hi ⊢;apply Y 0x658;refine sp (aC (k:=0) (m:=0) rfl rfl rfl rfl rfl rfl ob (Src.r 0 rfl) (Nat.zero_lt_succ _) rfl) ?_;apply Zu 0x791c4e<;>intro
 ·apply Y 0x3b6da789;intro A32;refine L.append (j:=2) rfl rfl rfl rfl ob rfl rfl rfl rfl (Src.o 5 rfl) rfl (by intro v hv;simp at hv;subst hv;rfl) oe oY rfl (fun A33 cc33=>?_);apply Y 0x2c88bb;refine sp (Ev.cast (u:=.int .i64 (((n+4+(i+1)):Nat):Int)) (Ev.add rfl rfl oe oe) (congrArg (Value.int .i64) oe)) ?_;apply Y 0x8ad1e;have he:=lK (n+4) i;refine QE.round (i:=(i,GA,gc)) ((i+1,A33,cc33)) ou ou (by exact lk [0] [0,1,2,3,4] (hh:=⟨rfl,rfl,(congrArg some (ax rfl QU)),rfl,rfl,trivial⟩))
 apply Y 0xad5a9;obtain rfl:w0=i:=oe;refine lp [0,3,4,6] [_,_,_,_] (fun q:Nat×Option Addr×Nat=>[(8,.int .i64 (q.1:Int)),(5,.int .i64 (((n+4+w0)+q.1:Nat):Int))]) (kz [_]) (fun q=>[Own 37 8 A4 1 1 [.int .i64 0,.int .i64 0,.int .i64 0,.int .i64 0,.int .i64 0,.slice none 0 0,.slice none 0 0,.slice none 0 0],Own 37 8 A6 1 1 [.int .i64 (n:Int),.int .i64 (n:Int),.int .i64 ((n:Int)+1),.int .i64 ((n:Int)+2),.int .i64 ((n:Int)+3),.slice GA w0 gc,.slice q.2.1 q.1 q.2.2,.slice none 0 0],Own 3 1 GA w0 gc (I64 (upI (n+4) w0)),Own 3 1 q.2.1 q.1 q.2.2 (I64 (upI (n+4+w0) q.1)),Own 3 1 none 0 0 []]) (fun q=>q.1≤w1) (fun q=>w1-q.1) (0,none,0) (Nat.zero_le _) (lk [0] [0,1,2,3,4]) ?_;apply Y 0x72e;intro i UA uc hi
 dsimp only at hi ⊢;apply Y 0x658;refine sp (aC (k:=1) (m:=1) rfl rfl rfl rfl rfl rfl ob (Src.r 0 rfl) (Nat.zero_lt_succ _) rfl) ?_;apply Zu 0x791c4e<;>intro
 ·apply Y 0x3b6da789;intro A46;refine L.append (j:=3) rfl rfl rfl rfl ob rfl rfl rfl rfl (Src.o 5 rfl) rfl (by intro v hv;simp at hv;subst hv;rfl) oe oY rfl (fun A47 cc47=>?_);apply Y 0x2c88bb;refine sp (Ev.cast (u:=.int .i64 (((n+4+w0+(i+1)):Nat):Int)) (Ev.add rfl rfl oe oe) (congrArg (Value.int .i64) oe)) ?_;apply Y 0x8ad1e;have he:=lK (n+4+w0) i;refine QE.round (i:=(i,UA,uc)) ((i+1,A47,cc47)) ou ou (by exact lk [0] [0,1,2,3,4] (hh:=⟨rfl,rfl,rfl,(congrArg some (ax rfl QU)),rfl,trivial⟩))
 apply Y 0xad5a9;obtain rfl:w1=i:=oe;refine lp [0,3,4,6] [_,_,_,_] (fun q:Nat×Option Addr×Nat=>[(9,.int .i64 (q.1:Int)),(5,.int .i64 (((n+4+w0+w1)+q.1:Nat):Int))]) (kz [_]) (fun q=>[Own 37 8 A4 1 1 [.int .i64 0,.int .i64 0,.int .i64 0,.int .i64 0,.int .i64 0,.slice none 0 0,.slice none 0 0,.slice none 0 0],Own 37 8 A6 1 1 [.int .i64 (n:Int),.int .i64 (n:Int),.int .i64 ((n:Int)+1),.int .i64 ((n:Int)+2),.int .i64 ((n:Int)+3),.slice GA w0 gc,.slice UA w1 uc,.slice q.2.1 q.1 q.2.2],Own 3 1 GA w0 gc (I64 (upI (n+4) w0)),Own 3 1 UA w1 uc (I64 (upI (n+4+w0) w1)),Own 3 1 q.2.1 q.1 q.2.2 (I64 (upI (n+4+w0+w1) q.1))]) (fun q=>q.1≤w2.toNat) (fun q=>w2.toNat-q.1) (0,none,0) (Nat.zero_le _) (lk [0] [0,1,2,3,4]) ?_;apply Y 0x72e;intro i LA lc hi
 dsimp only at hi ⊢;apply Y 0x658;refine sp (aC (k:=2) (m:=2) rfl rfl rfl rfl rfl rfl ob (Src.r 0 rfl) (Nat.zero_lt_succ _) rfl) ?_;apply Zu 0x791c4e<;>intro
 ·apply Y 0x3b6da789;intro A60;refine L.append (j:=4) rfl rfl rfl rfl ob rfl rfl rfl rfl (Src.o 5 rfl) rfl (by intro v hv;simp at hv;subst hv;rfl) oe oY rfl (fun A61 cc61=>?_);apply Y 0x2c88bb;refine sp (Ev.cast (u:=.int .i64 (((n+4+w0+w1+(i+1)):Nat):Int)) (Ev.add rfl rfl oe oe) (congrArg (Value.int .i64) oe)) ?_;apply Y 0x8ad1e;have he:=lK (n+4+w0+w1) i;refine QE.round (i:=(i,LA,lc)) ((i+1,A61,cc61)) ou ou (by exact lk [0] [0,1,2,3,4] (hh:=⟨rfl,rfl,rfl,rfl,(congrArg some (ax rfl QU)),trivial⟩))
 apply Y 0xd89bf4e7a9;refine qrt [] [2,3,4] [_] rfl ⟨⟨_,_,0,_,rfl,rfl,Src.o 0 rfl,.inl ⟨rfl,by decide,_,rfl,rfl,rfl⟩⟩,trivial⟩ ?_;obtain rfl:i=w2.toNat:=oe;exact ⟨GA,UA,LA,gc,uc,lc,rfl,rfl,rfl⟩
theorem DH {n:Nat}(h:8≤n):ao n 0 []=List.replicate n 255:=by rw [← pL,List.length_nil,lC h]
theorem FF {g:Fl}{sec:Int}{want:List UInt8}(h:aX g sec≠want∧(aS g sec want).x=ed g sec want∧aF g (ed g sec want)=0)(hw:want.length≤1000000):(aS g sec want).x.data.length≤1000000:=by
 rw [h.2.1]
 unfold ed
 split
 ·exact hw
 exact Zm 0x43e
theorem tY (f:Fl)(a:Fa)(ok:f.Ok)(hh:a.hs.length=f.data.length)(hcap:Caps f a)(sec:Int)(want:List UInt8)(W:Option Addr)(m wc:Nat)(hm:want.length=m)(hmz:m=f.size)(hsec:0≤sec∧sec<(f.data.length:Int)):
    Ctr X 56 [flV f a,.int .i64 sec,.slice W m wc] (flR f a++[Rd W (U8 want)]) [] (fun v R' H'=>∃ b:Fa,b.hs.length=(aq sec want 3 f).1.data.length∧Caps (aq sec want 3 f).1 b∧v=.tuple #[flV (aq sec want 3 f).1 b,.int .i64 (aq sec want 3 f).2]∧R'=flR (aq sec want 3 f).1 b∧H'=[]):=by
 apply Y 0xe1e;intro hok;have hz2:=ok.s2;refine co Tryz.func56 ?_;intro β;apply Y 0x4a;intro A3;apply Y 0x98;intro A6;apply Y 0xba1;refine C.loop (fun q:Nat×Fl×Fa=>[(1,.int .i64 sec),(2,.slice W m wc),(3,ag A3 0),(6,ag A6 0)]) (fun q:Nat×Fl×Fa=>(flR q.2.1 q.2.2++[Rd W (U8 want)])) (fun q:Nat×Fl×Fa=>[Own 34 5 A3 1 1 (flL q.2.1 q.2.2),Own 34 5 A6 1 1 [.int .i64 0,.slice none 0 0,.slice none 0 0,.int .i64 0,.slice none 0 0]]) (fun q:Nat×Fl×Fa=>q.2.1.Ok∧q.2.2.hs.length=q.2.1.data.length∧Caps q.2.1 q.2.2∧q.2.1.size=f.size∧q.2.1.data.length=f.data.length∧tMu q.2.1 sec want≤q.1∧aq sec want q.1 q.2.1=aq sec want 3 f) (fun q:Nat×Fl×Fa=>q.1) (3,f,a) ⟨ok,hh,hcap,rfl,rfl,Nat.le_succ_of_le (If ..),rfl⟩ (lk [0,1,2,3,4] [0,1]) ?_;rintro ⟨k,g,b⟩ ⟨ok,hb,hc,hz,hn,hmu,hinv⟩
 dsimp only at ok hb hc hz hn hmu hinv ⊢;have hse:0≤sec∧sec<(g.data.length:Int):=by rw [hn];exact hsec
 have hmw:want.length=g.size:=by rw [hm,hmz,hz]
 apply Y 0x487e1f7ba;refine aJ (fv g b ok hb sec want W m wc hm oe) ?_;apply Y 0x19;intro PO pc;apply Y 0x98ab;intro A8;apply Zu 0x203f487ee46e588832e<;>intro hg16
 ·apply Y 0x852f;intro hxw;apply Y 0x1dd;refine C.cond rfl (fun _=>?_) (fun h=>by cases h);apply Y 0xfa3f1be12e596a6ceae696bc9e6ce4be9b1f7f2f5;rw [← hinv,gU (.inr hg16)];exact ⟨b,hb,hc,rfl,rfl,rfl⟩
 apply Y 0x852f;intro hxw;apply Zu 0x1a17ee446e4<;>intro hc19
 ·have hdn:(aS g sec want).done=true:=Q9;apply Y 0xfa3f1be12e596a6ceae696bc9e6ce4be9b1f7f2f5;rw [← hinv,gU (.inl hdn)];exact ⟨b,hb,hc,rfl,rfl,rfl⟩
 have hnd:¬((aS g sec want).done=true∨(aS g sec want).e≠0):=by rintro (h|h);rw [h] at hc19;cases hc19;exact h hg16
 have hgo:=xh hse hmw hnd;have hE:aF g (aS g sec want).x=0:=by rw [hgo.2.1];exact hgo.2.2
 have K:=eb (x:=(aS g sec want).x) ok hE (fun _=>255);apply Y 0xc80f46e7e1f6899;refine aJ (Ak g b ok hb (aS g sec want).x PO pc (Nat.le_trans (FF hgo hxw) ob)) ?_;apply Y 0x19;intro b' hb';apply Y 0x25efd5bb830e;have hlt:=BR hse hmw hnd;obtain ⟨k,rfl⟩:∃ j,k=j+1:=⟨k-1,by omega⟩;rw [jF hnd] at hinv;refine QE.round (i:=(k+1,g,b)) ((k,c7 g (aS g sec want).x (fun _=>255),b')) (by exact ⟨K.ok,hb'.1,hb'.2,K.s.trans hz,K.n.trans hn,by dsimp only;omega,hinv⟩) ou (lk [0,1,2,3,9] [0,1])
theorem po (f:Fl)(a:Fa)(ok:f.Ok)(hh:a.hs.length=f.data.length)(y:Ly)(hcap:Caps f a)(s:List Int)(_hs:s.length=9):
    Ctr X 22 [flV f a,.agg (List.toArray [.int .i64 y.n,.int .i64 y.a,.int .i64 y.b,.int .i64 y.s0,.int .i64 y.s1,.slice y.T y.tn y.tc,.slice y.U y.un y.uc,.slice y.V y.vn y.vc]),.agg (List.toArray (st9 s))] (flR f a) [] (fun v R' H'=>∃ b:Fa,b.hs.length=(bG f y.a y.b s).1.data.length∧Caps (bG f y.a y.b s).1 b∧v=.tuple #[flV (bG f y.a y.b s).1 b,.int .i64 (bG f y.a y.b s).2]∧R'=flR (bG f y.a y.b s).1 b∧H'=[]):=by
 apply Y 0xe1e;intro hok;obtain ⟨os1,os2,on1,on2,owl,odl,orows,ol1,ol2,owear⟩:=ok;refine co Tryz.func22 ?_;intro β;apply Y 0x4a;intro A3;apply Y 0x2b;intro A4;apply Y 0x2b;intro A5;apply Y 0x98;intro A6;apply Y 0x15ed80f68ebdb90eb1ea4e35e549;refine al (zZ f a hok hh y) ?_;apply Zu 0x971f483aa8<;>intro hg15
 ·have hno:cY f y.a y.b=false:=by simpa using hg15
  apply Y 0x19a;refine C.cond rfl (fun _=>?_) (fun h=>by cases h);apply Y 0x580fb30fd30f5915bcb;rw [pr (.inl hno)];exact Zm 0x1d0f
 have hfits:cY f y.a y.b=true:=by simpa using hg15
 apply Zu 0x1a3843aa82b1f4c3e4<;>intro hc19
 ·have hno:aI s=false:=Q9;apply Y 0x580fb30fd30f5915bcb;rw [pr (.inr hno)];exact Zm 0x1d0f
 have hright:aI s=true:=Q9;have hft:=eD hfits;apply Y 0xa31f;intro hfit;have hk:=jE (sec:=y.a) (want:=(ao f.size 1 (aw s))) 3 f hok ⟨hft.2.1,hft.2.2.2.1⟩ (b7 hfit);apply Y 0x9d;refine C.join (fun q:Fa×Option Addr=>[(3,ag A3 0),(4,ag A4 0),(6,ag A6 0),(8,ag q.2 0),(9,.int .i64 (aq y.a (ao f.size 1 (aw s)) 3 f).2)]) (fun q:Fa×Option Addr=>[Rd q.1.D (ay q.1.hs (B8 (aq y.a (ao f.size 1 (aw s)) 3 f).1.data)),KidsR q.1.hs (B8 (aq y.a (ao f.size 1 (aw s)) 3 f).1.data),Rd q.1.W (I64 (aq y.a (ao f.size 1 (aw s)) 3 f).1.wear),Rd q.1.E (Bs (aq y.a (ao f.size 1 (aw s)) 3 f).1.dead),Rd A3 (flL f a),Rd A4 [.int .i64 y.n,.int .i64 y.a,.int .i64 y.b,.int .i64 y.s0,.int .i64 y.s1,.slice y.T y.tn y.tc,.slice y.U y.un y.uc,.slice y.V y.vn y.vc]]) (fun q:Fa×Option Addr=>[Own 34 5 A6 1 1 [.int .i64 0,.slice none 0 0,.slice none 0 0,.int .i64 0,.slice none 0 0],Own 34 5 q.2 1 1 [.int .i64 ((aq y.a (ao f.size 1 (aw s)) 3 f).1.size:Int),.slice q.1.D (aq y.a (ao f.size 1 (aw s)) 3 f).1.data.length q.1.cD,.slice q.1.W (aq y.a (ao f.size 1 (aw s)) 3 f).1.wear.length q.1.cW,.int .i64 (aq y.a (ao f.size 1 (aw s)) 3 f).1.limit,.slice q.1.E (aq y.a (ao f.size 1 (aw s)) 3 f).1.dead.length q.1.cE]]) (fun q:Fa×Option Addr=>q.1.hs.length=(aq y.a (ao f.size 1 (aw s)) 3 f).1.data.length∧Caps (aq y.a (ao f.size 1 (aw s)) 3 f).1 q.1) ?_ ?_
 ·apply Y 0x8d0f;refine mq 0 rfl (aa rfl rfl rfl (Src.r 2 rfl) rfl rfl ob) ?_;apply Y 0x4be;refine mq 2 rfl (aC (k:=0) (m:=1) rfl rfl rfl rfl rfl rfl ob (Src.r 1 rfl) Oc rfl) ?_;apply Y 0x6c1f;refine mq 4 rfl (faR 2) ?_;refine mq 5 rfl (ldR 2) ?_;refine mq 6 rfl (aa rfl rfl rfl (Src.r 0 rfl) rfl rfl ob) ?_;apply Zu 0xa23f
  ·apply Y 0x71e583f;intro WO;apply Zu 0xd23f3ab
   ·apply Y 0xf1e5b1f3ad00f;intro b hb hbc;apply Y 0x98e3e58ed8eb5e33a;intro A8;exact Zm 0xf91f6c42e696ba5e3
   apply Y 0x98;intro A8;apply Y 0xf1e5b1fab981f54e3;intro b hb hbc;exact Zm 0xf91f6c42e696ba5e58ed8eb5e3ab
  apply Y 0x98;intro A8;apply Y 0x71e583f34e3;intro WO;apply Y 0xf1e5b1fab981f54e330e;intro b hb hbc;exact Zm 0xf91f6c42e696ba5e58ed8eb5e3ab
 apply Y 0xa20f;intro b A8 hb hbc
 dsimp only at hb hbc ⊢;apply Zu 0x5d38586a<;>intro hc34
 ·have he1:(aq y.a (ao f.size 1 (aw s)) 3 f).2≠0:=hc34;apply Y 0x580fb30fd30f5915b6cb;rw [zV hfits hright rfl he1];exact Zm 0x1d0f
 have he1:(aq y.a (ao f.size 1 (aw s)) 3 f).2=0:=hc34;have hr1:(aq y.a (ao f.size 1 (aw s)) 3 f)=((aq y.a (ao f.size 1 (aw s)) 3 f).1,0):=Prod.ext rfl he1;apply Y 0x9d;refine C.join (fun q:Fa×Option Addr=>[(3,ag A3 0),(4,ag A4 0),(6,ag A6 0),(10,ag q.2 0),(9,.int .i64 (aq y.b (ao f.size 0 []) 3 (aq y.a (ao f.size 1 (aw s)) 3 f).1).2)]) (fun q:Fa×Option Addr=>[Rd q.1.D (ay q.1.hs (B8 (aq y.b (ao f.size 0 []) 3 (aq y.a (ao f.size 1 (aw s)) 3 f).1).1.data)),KidsR q.1.hs (B8 (aq y.b (ao f.size 0 []) 3 (aq y.a (ao f.size 1 (aw s)) 3 f).1).1.data),Rd q.1.W (I64 (aq y.b (ao f.size 0 []) 3 (aq y.a (ao f.size 1 (aw s)) 3 f).1).1.wear),Rd q.1.E (Bs (aq y.b (ao f.size 0 []) 3 (aq y.a (ao f.size 1 (aw s)) 3 f).1).1.dead)]) (fun q:Fa×Option Addr=>[Own 34 5 A6 1 1 [.int .i64 0,.slice none 0 0,.slice none 0 0,.int .i64 0,.slice none 0 0],Own 34 5 q.2 1 1 [.int .i64 ((aq y.b (ao f.size 0 []) 3 (aq y.a (ao f.size 1 (aw s)) 3 f).1).1.size:Int),.slice q.1.D (aq y.b (ao f.size 0 []) 3 (aq y.a (ao f.size 1 (aw s)) 3 f).1).1.data.length q.1.cD,.slice q.1.W (aq y.b (ao f.size 0 []) 3 (aq y.a (ao f.size 1 (aw s)) 3 f).1).1.wear.length q.1.cW,.int .i64 (aq y.b (ao f.size 0 []) 3 (aq y.a (ao f.size 1 (aw s)) 3 f).1).1.limit,.slice q.1.E (aq y.b (ao f.size 0 []) 3 (aq y.a (ao f.size 1 (aw s)) 3 f).1).1.dead.length q.1.cE]]) (fun q:Fa×Option Addr=>q.1.hs.length=(aq y.b (ao f.size 0 []) 3 (aq y.a (ao f.size 1 (aw s)) 3 f).1).1.data.length∧Caps (aq y.b (ao f.size 0 []) 3 (aq y.a (ao f.size 1 (aw s)) 3 f).1).1 q.1) ?_ ?_
 ·apply Y 0xa93f9d0f;refine mq 1 rfl (faR 5) ?_;refine mq 2 rfl (aC (k:=1) (m:=2) rfl rfl rfl rfl rfl rfl ob (Src.r 5 rfl) Oc rfl) ?_;refine mq 3 rfl (ldR 5) ?_;refine mq 4 rfl (faR 4) ?_;refine mq 5 rfl (ldR 4) ?_;refine LM.alt [6,11] oa ob hcx ⟨⟨_,rfl,?_⟩,⟨_,rfl,?_⟩,trivial⟩
  ·apply Y 0x71e470f;intro QO;apply Y 0x330e964f;refine LM.alt [7,11] oa ob hcx ⟨⟨_,rfl,?_⟩,⟨_,rfl,?_⟩,trivial⟩
   ·apply Y 0xf1e4b1fab981f;intro b2 hb2 hbc2;apply Y 0x98b4ed8eb5e67e3ab;intro A10;exact Zm 0x2a1f6cc8e6932ee3e3
   apply Y 0x98;intro A10;apply Y 0xf1e4b1f30e881f34e3;intro b2 hb2 hbc2;exact Zm 0x2a1f6cc8e6932ee3ed8eb5e67e330e
  apply Y 0x98;intro A10;apply Y 0x71e470f45e3;intro QO;apply Y 0xf1e4b1f30e881f34e35ce964f;intro b2 hb2 hbc2;exact Zm 0x2a1f6cc8e6932ee3ed8eb5e67e330e
 apply Y 0xa20f;intro b2 A10 hb2 hbc2
 dsimp only at hb2 hbc2 ⊢;apply Zu 0x5d38586a<;>intro hc49
 ·have he2:(aq y.b (ao f.size 0 []) 3 (aq y.a (ao f.size 1 (aw s)) 3 f).1).2≠0:=hc49;apply Y 0x580fb30fd30f5915b6cb;rw [zU hfits hright hr1 rfl he2];exact Zm 0x1d0f
 have he2:(aq y.b (ao f.size 0 []) 3 (aq y.a (ao f.size 1 (aw s)) 3 f).1).2=0:=hc49;have hr2:(aq y.b (ao f.size 0 []) 3 (aq y.a (ao f.size 1 (aw s)) 3 f).1)=((aq y.b (ao f.size 0 []) 3 (aq y.a (ao f.size 1 (aw s)) 3 f).1).1,0):=Prod.ext rfl he2;apply Y 0x8c1fd815bf4e3c;rw [pq hfits hright hr1 hr2];exact ⟨b2,hb2,hbc2,rfl,rfl,rfl⟩
end Go.Proofs.YtbpddeiogcgegaaGreat
