/-
  Part of a proof.
-/
import Derived.Test.YtbpddeiogcgegaaGreatUSlMi
set_option maxHeartbeats 0
set_option maxRecDepth 4000
set_option linter.all false
namespace Go.Sl
def ptL (x:T3):Nat:=1+x.2.1.toNat%40
def ptR (n out:Nat)(x:T3):Nat:=if x.1.toNat%4=3 then out else x.2.2.toNat*3%n
def ptO (n out:Nat)(x:T3):Po:=
  if 0<x.1.toNat%4 then ⟨1,((ptR n out x:Nat):Int),((min (min (ptL x) (n-out)) (n-ptR n out x):Nat):Int),0⟩
  else ⟨3,0,((min (ptL x) (n-out):Nat):Int),x.2.2⟩
def ptS (n:Nat)(l:List T3):Nat→List Po×Nat
  |0=>([],0)
  |i+1=>if (ptS n l i).2<n then ((ptS n l i).1++[ptO n (ptS n l i).2 (l.getD i (0,0,0))],(ptS n l i).2+(ptO n (ptS n l i).2 (l.getD i (0,0,0))).ln.toNat) else ptS n l i
def ptE (n:Nat)(s:List Po×Nat):List Po:=if s.2<n then s.1++[⟨1,(s.2:Int),((n-s.2:Nat):Int),0⟩] else s.1
def ptF (n:Nat)(l:List T3):List Po:=ptE n (ptS n l (min l.length 8))
section
variable {n:Nat}{l:List T3}{out:Nat}{x:T3}
theorem ta {i:Nat}(h:¬(ptS n l i).2<n):∀ j,ptS n l (i+j)=ptS n l i
  |0=>rfl
  |j+1=>by
    have e:=ta h j
    rw [← Nat.add_assoc,ptS,e,if_neg h]
theorem jo {i m:Nat}(hi:i≤m)(h:¬(ptS n l i).2<n):ptS n l m=ptS n l i:=by
 obtain ⟨j,rfl⟩:∃ j,m=i+j:=⟨m-i,by omega⟩
 exact ta h j
theorem DV {i:Nat}(h:(ptS n l i).2<n):ptS n l (i+1)=((ptS n l i).1++[ptO n (ptS n l i).2 (l.getD i (0,0,0))],(ptS n l i).2+(ptO n (ptS n l i).2 (l.getD i (0,0,0))).ln.toNat):=by
 rw [ptS,if_pos h]
theorem Ib (h:out<n):ptR n out x<n:=by
 unfold ptR
 split
 ·exact Zm 0xc2e
 exact Nat.mod_lt _ oe
theorem DW (h:out<n):1≤(ptO n out x).ln∧(ptO n out x).ln≤((n-out:Nat):Int)∧(ptO n out x).ln≤40:=by
 apply Y 0x772f;intro h2;have h3:1≤ptL x∧ptL x≤40:=by unfold ptL;omega
 unfold ptO
 split
 ·show 1≤((min (min (ptL x) (n-out)) (n-ptR n out x):Nat):Int)∧((min (min (ptL x) (n-out)) (n-ptR n out x):Nat):Int)≤_∧((min (min (ptL x) (n-out)) (n-ptR n out x):Nat):Int)≤40;exact Zm 0x18
 show 1≤((min (ptL x) (n-out):Nat):Int)∧((min (ptL x) (n-out):Nat):Int)≤_∧((min (ptL x) (n-out):Nat):Int)≤40;exact Zm 0x18
theorem xL (h:out<n):bI (ptO n out x) (n:Int)=true:=by
 apply Y 0x772f;intro h2
 unfold ptO
 split
 ·apply Y 0xd4ed8e;rw [if_pos rfl,Bool.and_eq_true,decide_eq_true_eq,decide_eq_true_eq];exact ⟨⟨by omega,by omega⟩,rfl⟩
 unfold bI;apply Y 0xd4e;rw [if_neg ob,if_neg ob,if_pos rfl]
 exact decide_eq_true rfl
theorem lK:∀ i,(ptS n l i).2≤n∧(ptS n l i).1.length≤i∧∀ (rest:List Po) (left:Int),(n:Int)≤left→eF (n:Int) left ((ptS n l i).1++rest)=eF (n:Int) (left-((ptS n l i).2:Int)) rest
  |0=>⟨Nat.zero_le _,Nat.le_refl _,fun rest left _=>by simp [ptS]⟩
  |i+1=>by
    obtain ⟨h1,h2,h3⟩:=lK i
    by_cases h:(ptS n l i).2<n
    · rw [DV h]
      have hl:=DW (x:=l.getD i (0,0,0)) h
      have hr:=xL (x:=l.getD i (0,0,0)) h
      refine ⟨by dsimp only;omega,by dsimp only;rw [List.length_append,List.length_singleton];omega,fun rest left hle=>?_⟩
      dsimp only
      rw [List.append_assoc,h3 _ _ hle,List.singleton_append,eF,if_neg (by
        rintro (q|q|q)
        · omega
        · omega
        · rw [hr] at q;cases q)]
      congr 1
      omega
    · rw [ptS,if_neg h]
      exact ⟨h1,by omega,h3⟩
theorem Fs (s:List Po×Nat):(ptE n s).length≤s.1.length+1:=by
 unfold ptE
 split
 ·rw [List.length_append,List.length_singleton];exact Zm 0x2de
 exact Zm 0x18
theorem xN:(ptF n l).length≤9:=by
 have h1:=Fs (n:=n) (ptS n l (min l.length 8));have h2:=(lK (n:=n) (l:=l) (min l.length 8)).2.1
 unfold ptF;exact Zm 0x18
theorem xM (hn:n≤1000):cF (n:Int) (n:Int) (ptF n l)=0:=by
 obtain ⟨h1,h2,h3⟩:=lK (n:=n) (l:=l) (min l.length 8);have hl:=xN (n:=n) (l:=l)
 unfold cF;rw [if_neg oe,if_pos]
 unfold ptF ptE
 split
 ·rename_i h;rw [h3 _ _ (Int.le_refl _),eF,if_neg,eF]
  ·exact decide_eq_true ot
  apply Y 0xd4e;rintro (q|q|q)
  ·exact Zm 0x18
  ·exact Zm 0x18
  unfold bI yK at q
  dsimp only at q;rw [if_pos rfl] at q
  simp only [Bool.and_eq_false_iff,decide_eq_false_iff_not] at q
  rcases q with q|q
  ·exact q oe
  exact q rfl
 rename_i h;have:=h3 [] n (Int.le_refl _);rw [List.append_nil] at this;rw [this,eF];exact Zm 0x941f
end
end Go.Sl
section
namespace Go.Sl
structure Raw where
  l:List T3
  w0:UInt8
  w1:UInt8
  w2:UInt8
  w3:UInt8
  old:List UInt8
namespace Raw
variable (x:Raw)
def S:Nat:=40+x.w0.toNat%36
def n:Nat:=1+x.w1.toNat%4
def sg:Nat:=1+x.w2.toNat%2
def m:Nat:=x.n*x.S
def img:List UInt8:=mM x.old x.m
def ops:List Po:=ptF x.m x.l
def seq:List Int:=NI (mkQ (ah x.ops) (x.m:Int) x.S x.n)
def st:List Int:=NI (mkH (ah x.ops) (x.m:Int) x.S x.n)
def pln:Pln:=⟨(x.S:Int),(x.n:Int),false,(x.m:Int),(x.m:Int),x.ops,x.seq,x.st⟩
def new:List UInt8:=bf x.img (ah x.ops)
def nd:Nd:=eQ false (x.S:Int) (x.n:Int) (x.m:Int) (x.m:Int) x.ops x.seq x.st x.img
def u:Nat:=ndU (ndT x.img x.new x.S x.seq) x.S
def more:Nat:=4+x.sg+x.u+x.st.length
def lay:Lay:=⟨(x.n:Int),(x.n:Int),((x.n:Nat):Int)+1,((x.n:Nat):Int)+2,((x.n:Nat):Int)+3,upI (x.n+4) x.sg,upI (x.n+4+x.sg) x.u,upI (x.n+4+x.sg+x.u) x.st.length⟩
def dirt (d:List (List UInt8))(n S:Nat)(w:UInt8):Nat→List (List UInt8)
  |0=>d
  |k+1=>(dirt d n S w k).set (n+k) (((dirt d n S w k).getD (n+k) []).set ((n+k)%S) w)
def dirts:Nat:=if x.w3.toNat%2=1 then x.more else 0
def dat:List (List UInt8):=dirt (flD x.img x.S x.n (x.n+x.more)) x.n x.S x.w3 x.dirts
def fl0:Fl:=⟨x.S,x.dat,List.replicate (x.n+x.more) 0,100000,List.replicate (x.n+x.more) false⟩
def s0:List Int:=[1,0,0,0,0,0,0,5,4]
def fl:Fl:=(bH x.fl0 (x.n:Int) ((x.n:Int)+1) s0).1
def pkg:Pkg:=⟨5,4,x.pln⟩
theorem S_le:40≤x.S∧x.S≤75:=by unfold S;omega
theorem n_le:1≤x.n∧x.n≤4:=by unfold n;omega
theorem sg_le:1≤x.sg∧x.sg≤2:=by unfold sg;omega
theorem m_le:40≤x.m∧x.m≤300:=by
 apply Y 0x7be;intro h1;apply Y 0x8be;intro h2;have a:1*40≤x.n*x.S:=Nat.mul_le_mul h2.1 h1.1;have b:x.n*x.S≤4*75:=Nat.mul_le_mul h2.2 h1.2
 unfold m;exact Zm 0x18
theorem img_len:x.img.length=x.m:=tO _ _
theorem ops_len:x.ops.length≤9:=xN
theorem chk:cF (x.m:Int) (x.m:Int) x.ops=0:=xM (by have:=x.m_le;omega)
theorem siz:kb (x.S:Int) (x.n:Int) (x.m:Int) (x.m:Int)=true:=by
 apply Y 0x7be;intro h1;apply Y 0x8be;intro h2;refine dy.2 ⟨by omega,by omega,by omega,by omega,?_,?_⟩<;> · unfold m;rw [Int.natCast_mul,Int.mul_comm];exact Int.le_refl _
theorem chg_len:(aH (ah x.ops) (x.m:Int) x.S x.n).length≤4:=by
 have h:=gw (ah x.ops) (x.m:Int) x.S x.n;apply Y 0x8be;intro h2;exact Zm 0x18
theorem mkE0:mkE false (x.m:Int) (x.m:Int) (x.S:Int) (x.n:Int) x.ops x.m=0:=
  IB x.chk rfl x.siz rfl (by rw [Int.toNat_natCast,Int.toNat_natCast];have:=x.chg_len;omega)
theorem mkP0:mkP false (x.m:Int) (x.m:Int) (x.S:Int) (x.n:Int) x.ops x.m=⟨(x.S:Int),(x.n:Int),false,(x.m:Int),(x.m:Int),x.ops,x.seq,x.st⟩:=by
 have h:=D7 x.mkE0;rw [Int.toNat_natCast,Int.toNat_natCast] at h;exact Zm 0xc2e
theorem vld:eD false (x.S:Int) (x.n:Int) (x.m:Int) (x.m:Int) x.ops x.seq x.st=true:=by
 have h:=Ix x.mkE0;rw [Int.toNat_natCast,Int.toNat_natCast] at h;exact Zm 0xc2e
theorem seq_len:x.seq.length≤4:=by
 have h:=(v8 x.vld).1;rw [Int.toNat_natCast,Int.toNat_natCast] at h;have:=x.chg_len;exact Zm 0x18
theorem st_len:x.st.length≤16:=by
 have h:=(FL (lf:=false) (inn:=(x.m:Int)) (out:=(x.m:Int)) (sz:=(x.S:Int)) (n:=(x.n:Int)) (ops:=x.ops) (ol:=x.m)).2.2;rw [x.mkP0] at h;exact Zm 0xc2e
theorem yg (old new:List UInt8)(S:Nat)(seq:List Int):∀ i,ndT old new S (seq.take i)≤(5+5*S)*i
  |0=>by simp [ndT]
  |i+1=>by
    have h:=yg old new S seq i
    by_cases hi:i<seq.length
    · rw [lW hi,Nat.mul_succ]
      have:=yi (old:=old) (new:=new) (S:=S) (seq.getD i 0)
      omega
    · rw [List.take_of_length_le oe] at h ⊢
      exact Nat.le_trans h (Nat.mul_le_mul_left _ oe)
theorem T_le:ndT x.img x.new x.S x.seq≤20*(1+x.S):=by
 have h:=yg x.img x.new x.S x.seq x.seq.length;rw [List.take_length] at h;have h2:(5+5*x.S)*x.seq.length≤(5+5*x.S)*4:=Nat.mul_le_mul_left _ x.seq_len;exact Zm 0x18
theorem u_le:x.u≤22:=by
 have h:=x.T_le;apply Y 0x7be;intro h2
 unfold u ndU;refine Nat.le_of_lt_succ ((Nat.div_lt_iff_lt_mul oe).2 ?_);exact Zm 0x18
theorem ndE0:dM false (x.S:Int) (x.n:Int) (x.m:Int) (x.m:Int) x.ops x.seq x.st x.img=0:=by
 refine yf x.vld (by rw [x.img_len]) ?_;rw [Int.toNat_natCast];have h:=x.T_le;apply Y 0x7be;intro h2
 show ndT x.img x.new x.S x.seq≤65535;exact Zm 0x18
theorem nd_eq:x.nd=nd5 x.u x.st.length x.seq.length x.S (ndG x.img x.new x.S x.seq):=by
 unfold nd;rw [lV x.ndE0,Int.toNat_natCast];exact Zm 0x2
theorem nd_u:x.nd.u=(x.u:Int):=by rw [x.nd_eq];rfl
theorem nd_s:x.nd.s=(x.st.length:Int):=by rw [x.nd_eq];rfl
theorem more_le:5≤x.more∧x.more≤44:=by
 apply Y 0xaa0f;intro h1;apply Y 0x940f;intro h2;apply Y 0x840f;intro h3
 unfold more;exact Zm 0x18
section
variable {d:List (List UInt8)}{n S:Nat}{w:UInt8}
theorem dirt_len:∀ k,(dirt d n S w k).length=d.length
  |0=>rfl
  |k+1=>by rw [dirt,List.length_set,dirt_len k]
theorem dirt_row {i:Nat}:∀ k,((dirt d n S w k).getD i []).length=(d.getD i []).length
  |0=>rfl
  |k+1=>by
    rw [dirt]
    by_cases h:n+k=i
    · subst h
      by_cases hl:n+k<(dirt d n S w k).length
      · rw [aZ hl,List.length_set]
        exact dirt_row k
      · rw [List.set_eq_of_length_le oe]
        exact dirt_row k
    · rw [List.getD_eq_getElem?_getD,List.getElem?_set_ne h,← List.getD_eq_getElem?_getD]
      exact dirt_row k
end
theorem flD_get (b:List UInt8)(S n k:Nat){i:Nat}(h:i<k):(flD b S n k).getD i []=flC b S n i:=ak h _
theorem dat_len:x.dat.length=x.n+x.more:=by unfold dat;rw [dirt_len,cV]
theorem dat_row {i:Nat}(h:i<x.n+x.more):(x.dat.getD i []).length=x.S:=by
 unfold dat;rw [dirt_row,flD_get _ _ _ _ h,dO]
theorem fl0_ok:x.fl0.Ok:=by
 apply Y 0x7be;intro h1;apply Y 0x8be;intro h2;apply Y 0x740f;intro h3;refine ⟨by show 1≤x.S;omega,by show x.S≤4096;omega,by show 1≤x.dat.length;rw [x.dat_len];omega,by show x.dat.length≤64;rw [x.dat_len];omega,by show (List.replicate _ (0:Int)).length=x.dat.length;rw [x.dat_len,List.length_replicate],by show (List.replicate _ false).length=x.dat.length;rw [x.dat_len,List.length_replicate],fun i hi=>?_,by show (1:Int)≤100000;decide,by show (100000:Int)≤100000;decide,fun i hi=>?_⟩
 ·have hi':i<x.dat.length:=hi;rw [x.dat_len] at hi'
  exact x.dat_row hi'
 have hi':i<x.dat.length:=hi;rw [x.dat_len] at hi'
 show 0≤(List.replicate (x.n+x.more) (0:Int)).getD i 0∧(List.replicate (x.n+x.more) (0:Int)).getD i 0≤100000;rw [dE _ _ _ _ hi'];exact Zm 0xc9e
theorem Bo:aY s0=true:=ob
theorem fits0:du x.fl0 (x.n:Int) ((x.n:Int)+1)=true:=by
 apply Y 0x7be;intro h1;apply Y 0x8be;intro h2;apply Y 0x740f;intro h3;have h4:=x.dat_len;refine decide_eq_true ⟨by omega,by omega,by omega,?_,?_,?_⟩
 ·show (x.n:Int)<(x.dat.length:Int);exact Zm 0x18
 ·show (x.n:Int)+1<(x.dat.length:Int);exact Zm 0x18
 show 38≤x.S;exact Zm 0x18
theorem fresh0 {s:List Int}(hs:aY s=true):(bH x.fl0 (x.n:Int) ((x.n:Int)+1) s).2=0∧Fresh x.fl0 (x.n:Int) ((x.n:Int)+1) s (bH x.fl0 (x.n:Int) ((x.n:Int)+1) s).1:=by
 have hd:∀ i,x.fl0.dead.getD i false=false:=fun i=>by
  apply Y 0xcf3f
  by_cases hi:i<x.n+x.more
  ·exact Zm 0xb80f
  exact Zm 0xa80f
 have hw:∀ i,x.fl0.wear.getD i 0=0:=fun i=>by
  apply Y 0xbf3f
  by_cases hi:i<x.n+x.more
  ·exact Zm 0xb80f
  exact Zm 0xa80f
 exact gU x.fl0_ok x.fits0 hs ⟨hd _,hd _⟩ ⟨by rw [hw];show (0:Int)<100000;decide,by rw [hw];show (0:Int)<100000;decide⟩
theorem fl_fresh:Fresh x.fl0 (x.n:Int) ((x.n:Int)+1) s0 x.fl:=(x.fresh0 Bo).2
theorem fl_ok:x.fl.Ok:=x.fl_fresh.ok
theorem fl_size:x.fl.size=x.S:=x.fl_fresh.sz
theorem fl_len:x.fl.data.length=x.n+x.more:=x.fl_fresh.n.trans x.dat_len
theorem rest_eq:x.lay.rest=upI x.n x.more:=by
 unfold lay Lay.rest upI more;apply Y 0xd4e;refine List.ext_getElem O8 fun i h1 h2=>?_
 simp only [List.length_map,List.length_range] at h2
 simp only [List.getElem_map,List.getElem_range]
 by_cases a:i<4
 ·have:i=0∨i=1∨i=2∨i=3:=oe
  rcases this with rfl|rfl|rfl|rfl<;>simp<;>omega
 by_cases b:i<4+x.sg
 ·rw [List.getElem_append_left O8,List.getElem_append_left O8,List.getElem_append_right O8]
  simp;exact Zm 0x18
 by_cases c:i<4+x.sg+x.u
 ·rw [List.getElem_append_left O8,List.getElem_append_right O8]
  simp;exact Zm 0x18
 rw [List.getElem_append_right O8]
 simp;exact Zm 0x18
theorem lay_ok:eT x.fl x.lay=true:=by
 apply Y 0x7be;intro h1;apply Y 0x8be;intro h2;apply Y 0x740f;intro h3;apply Y 0x840f;intro h4;have h5:=x.fl_len
 unfold eT;rw [Bool.and_eq_true,decide_eq_true_eq,decide_eq_true_eq];refine ⟨x.fl_ok,by rw [x.fl_size];omega,by show (1:Int)≤(x.n:Int);omega,by show (x.n:Int)≤_;rw [h5];omega,by show 1≤(upI _ _).length;rw [dY];omega,by show (upI _ _).length≤8;rw [dY];omega,fun v hv=>?_,?_⟩
 ·rw [x.rest_eq] at hv;obtain ⟨i,hi,rfl⟩:=List.mem_map.1 hv;rw [List.mem_range] at hi;rw [h5]
  show (x.n:Int)≤_∧_;exact Zm 0x18
 rw [x.rest_eq]
 unfold upI;rw [List.nodup_iff_pairwise_ne,List.pairwise_map]
 exact (List.nodup_iff_pairwise_ne.1 List.nodup_range).imp fun h=>by omega
end Raw
end Go.Sl
end
namespace Go.Proofs.YtbpddeiogcgegaaGreat
open Go.Sl
theorem x2 (LA:Option Addr)(l:List T3)(lc n:Nat)(hl:l.length≤9223372036854775807)(hn:1≤n∧n≤1000):
    Ctr X 38 [.slice LA l.length lc,.int .i64 (n:Int)] [Rd LA (pI l)] [] (fun v R' H'=>∃ (OA:Option Addr) (oc:Nat),v=.agg (List.toArray [.bool false,.int .i64 (n:Int),.int .i64 (n:Int),.slice OA (ptF n l).length oc])∧R'=[Rd OA (ck (ptF n l))]∧H'=[]):=by
 refine co Tryz.func38 ?_;intro β;apply Y 0xa848;intro A4;apply Y 0xa8bab998;intro A5;apply Y 0xcdcb4c;refine C.nil_own 157 5 ?_;refine lp [0,1,4,5] [_,_,_,_] (fun q:Nat×Option Addr×Nat=>[(6,.int .i64 (q.1:Int))]) (kz [_]) (fun q=>[Own 40 4 A4 1 1 [.bool false,.int .i64 0,.int .i64 0,.slice none 0 0],Own 40 4 A5 1 1 [.bool false,.int .i64 (n:Int),.int .i64 ((ptS n l q.1).2:Nat),.slice q.2.1 (ptS n l q.1).1.length q.2.2],Own 157 5 q.2.1 (ptS n l q.1).1.length q.2.2 (ck (ptS n l q.1).1)]) (fun q=>q.1≤min l.length 8) (fun q=>min l.length 8-q.1) (0,none,0) (Nat.zero_le _) (lk [0] [0,1,2]) ?_;apply Y 0xf1e;intro i A c hi
 dsimp only at hi ⊢;apply Zu 0x461fb89d<;>intro
 ·apply Zu 0x8d2fb8f9<;>intro
  ·apply Zu 0x2af91ee43be4<;>intro
   ·apply Y 0x599;have hi2:i<l.length∧i<8:=oe;have hb8:(l.getD i (0,0,0)).2.2.toNat<256:=UInt8.toNat_lt _;have hon:(ptS n l i).2<n:=oe;apply Y 0xba0f;intro ho1 ho2;have hln:=DW (x:=(l.getD i (0,0,0))) hon;have hL:1≤ptL (l.getD i (0,0,0))∧ptL (l.getD i (0,0,0))≤40:=by unfold ptL;omega
    have hmod:((l.getD i (0,0,0)).2.2.toNat*3%n)<n:=Nat.mod_lt _ oe;have hgo:=DV (l:=l) (i:=i) hon;apply Y 0xc9ad;refine sq (cn (k:=i) (m:=i*3) rfl rfl rfl rfl rfl rfl oe (Src.r 0 rfl) (iQ (k:=i) oe) rfl) ?_;refine sq (av (k:=1) (m:=i*3+1) rfl rfl rfl rfl rfl rfl ob (Src.r 0 rfl) (iQ (k:=i) oe) rfl) ?_;refine sq (Ev.load rfl rfl rfl (Src.r 0 rfl) ((iq (i:=i) (j:=1) oe ob).trans rfl)) ?_;apply Y 0xf70f;refine sq (Ev.cast (u:=.int .i64 ((((l.getD i (0,0,0)).2.1.toNat%40):Nat):Int)) (Ev.rem rfl rfl oe ob) (congrArg (Value.int .i64) OK)) ?_;refine sq (Ev.cast (u:=.int .i64 (((ptL (l.getD i (0,0,0))):Nat):Int)) (Ev.add rfl rfl oe oe) (congrArg (Value.int .i64) (by unfold ptL;omega))) ?_;apply Y 0x380f280f6d;refine sq (Ev.cast (u:=.int .i64 (((n-(ptS n l i).2):Nat):Int)) (Ev.sub rfl rfl oe oe) (congrArg (Value.int .i64) oe)) ?_;refine sq (Ev.cast (u:=.int .i64 (((min (ptL (l.getD i (0,0,0))) (n-(ptS n l i).2)):Nat):Int)) (Ev.pure rfl) (congrArg (Value.int .i64) QH)) ?_;apply Y 0xa8ba283f973f101fb84840e;intro A8;apply Zu 0x791463f183f873f101f9d9856e<;>intro
    ·apply Y 0x1be283f973f101f1c;refine sp (Ev.cast (u:=.int .i64 ((((l.getD i (0,0,0)).2.2.toNat*3):Nat):Int)) (Ev.mul rfl rfl oe oe) (congrArg (Value.int .i64) oe)) ?_;apply Y 0x7;refine sp (Ev.cast (u:=.int .i64 ((((l.getD i (0,0,0)).2.2.toNat*3%n):Nat):Int)) (Ev.rem rfl rfl oe oe) (congrArg (Value.int .i64) (Int.natCast_emod _ _).symm)) ?_;apply Zu 0x4d1463f183f873f101f9d1<;>intro
     ·have hbk:(ptO n (ptS n l i).2 (l.getD i (0,0,0)))=⟨1,((ptS n l i).2:Int),((min (min (ptL (l.getD i (0,0,0))) (n-(ptS n l i).2)) (n-(ptS n l i).2):Nat):Int),0⟩:=by unfold ptO;rw [if_pos oe,show ptR n (ptS n l i).2 (l.getD i (0,0,0))=(ptS n l i).2 from if_pos oe]
      apply Y 0xcf0f28ac1fa78;refine sp (Ev.cast (u:=.int .i64 (((min (min (ptL (l.getD i (0,0,0))) (n-(ptS n l i).2)) (n-(ptS n l i).2)):Nat):Int)) (Ev.pure rfl) (congrArg (Value.int .i64) QH)) ?_;apply Y 0x571f3c1ffa78751fcb56eba;intro A83;apply Y 0xd51f;intro A84 cc84;exact Zm 0xe81f9a60e9c2b1f110f14efa78989c
     have hbk:(ptO n (ptS n l i).2 (l.getD i (0,0,0)))=⟨1,((((l.getD i (0,0,0)).2.2.toNat*3%n):Nat):Int),((min (min (ptL (l.getD i (0,0,0))) (n-(ptS n l i).2)) (n-((l.getD i (0,0,0)).2.2.toNat*3%n)):Nat):Int),0⟩:=by unfold ptO;rw [if_pos oe,show ptR n (ptS n l i).2 (l.getD i (0,0,0))=((l.getD i (0,0,0)).2.2.toNat*3%n) from if_neg oe]
     apply Y 0x28ac59;refine sp (Ev.cast (u:=.int .i64 (((n-((l.getD i (0,0,0)).2.2.toNat*3%n)):Nat):Int)) (Ev.sub rfl rfl oe oe) (congrArg (Value.int .i64) oe)) ?_;refine sp (Ev.cast (u:=.int .i64 (((min (min (ptL (l.getD i (0,0,0))) (n-(ptS n l i).2)) (n-((l.getD i (0,0,0)).2.2.toNat*3%n))):Nat):Int)) (Ev.pure rfl) (congrArg (Value.int .i64) QH)) ?_;apply Y 0x571f3c1ffa78751fcb56eba;intro A83;apply Y 0xd51f;intro A84 cc84;exact Zm 0xe81f9a60e9c2b1f110f14efa78989c
    have hbk:(ptO n (ptS n l i).2 (l.getD i (0,0,0)))=⟨3,0,((min (ptL (l.getD i (0,0,0))) (n-(ptS n l i).2)):Nat),(l.getD i (0,0,0)).2.2⟩:=by unfold ptO;rw [if_neg oe]
    apply Y 0x571f3c1ffa78751fbd;intro A83;apply Y 0xd51f;intro A84 cc84;exact Zm 0xe81f9a60e9c2b1f110f14efa78989c
   apply Y 0xba0f55a9;intro ho1 ho2;apply Zu 0x2afa78<;>intro
   ·apply Y 0x671fbacf0ffa7fafa48;intro A105;apply Y 0xc51f;intro A106 cc106;apply Y 0xcce85bc5e48989cab989c
    exfalso;exact Zm 0x18
   apply Y 0xcc460fd00fe85bc5e8d;have hB:ptS n l (min l.length 8)=ptS n l i:=by first|(rw [show min l.length 8=i by omega])|exact jo oe oe
   apply Y 0xb21f;intro hF;rw [hF];apply Y 0x521f;intro ho;apply Y 0x2e1f6d1f;rw [ho]
  apply Y 0x139;refine C.cond rfl (fun h=>by cases h) (fun _=>?_);apply Y 0xba0f55a9;intro ho1 ho2;apply Zu 0x2afa78<;>intro
  ·apply Y 0x671fbacf0ffa7fafa48;intro A105;apply Y 0xc51f;intro A106 cc106;apply Y 0xe85bc5e48989cab989c;refine qfz 2 [0,1,3] ?_;apply Y 0xccb81f;have hB:ptS n l (min l.length 8)=ptS n l i:=by first|(rw [show min l.length 8=i by omega])|exact jo oe oe
   apply Y 0xc22f;intro hF;rw [hF];rw [List.length_append,lR];exact ⟨A106,cc106,rfl,rfl,rfl⟩
  apply Y 0xcc460fd00fe85bc5e8d;have hB:ptS n l (min l.length 8)=ptS n l i:=by first|(rw [show min l.length 8=i by omega])|exact jo oe oe
  apply Y 0xb21f;intro hF;rw [hF];apply Y 0x521f;intro ho;apply Y 0x2e1f6d1f;rw [ho]
 apply Y 0x11dfd;refine C.cond rfl (fun h=>by cases h) (fun _=>?_);apply Y 0xba0f55a9;intro ho1 ho2;apply Zu 0x2afa78<;>intro
 ·apply Y 0x671fbacf0ffa7fafa48;intro A105;apply Y 0xc51f;intro A106 cc106;apply Y 0xe85bc5e48989cab989c;refine qfz 2 [0,1,3] ?_;apply Y 0xccb81f;have hB:ptS n l (min l.length 8)=ptS n l i:=by first|(rw [show min l.length 8=i by omega])|exact jo oe oe
  apply Y 0xc22f;intro hF;rw [hF];rw [List.length_append,lR];exact ⟨A106,cc106,rfl,rfl,rfl⟩
 apply Y 0xcc460fd00fe85bc5e8d;have hB:ptS n l (min l.length 8)=ptS n l i:=by first|(rw [show min l.length 8=i by omega])|exact jo oe oe
 apply Y 0xb21f;intro hF;rw [hF];apply Y 0x521f;intro ho;apply Y 0x2e1f6d1f;rw [ho]
theorem nQ (BA:Option Addr)(b:List UInt8)(bc S n k:Nat)(hbl:b.length≤1000000)(hS1:1≤S)(hS2:S≤4096)(hn2:n≤64)(hk2:k≤100):
    Ctr X 34 [.slice BA b.length bc,.int .i64 (S:Int),.int .i64 (n:Int),.int .i64 (k:Int)] [Rd BA (U8 b)] [] (fun v R' H'=>∃ f:Fa,v=.agg (List.toArray [.int .i64 (S:Int),.slice f.D (n+k) f.cD,.slice f.W (n+k) f.cW,.int .i64 1000,.slice f.E (n+k) f.cE])∧R'=[]∧H'=[Own 24 1 f.D (n+k) f.cD (aC f.hs (B8 (flD b S n (n+k)))),aw 5 f.hs (B8 (flD b S n (n+k))),Own 3 1 f.W (n+k) f.cW (I64 (List.replicate (n+k) 0)),Own 4 1 f.E (n+k) f.cE (Bs (List.replicate (n+k) false))]∧f.hs.length=n+k):=by
 refine co Tryz.func34 ?_;intro β;apply Y 0xa848;intro A8;apply Y 0xa8bab998;intro A9;apply Y 0x5cb4c;refine hI 24 1 ?_;apply Y 0x320f;refine hI 4 1 ?_;apply Y 0xaa178;refine C.kids0 5 ?_;refine lp [0,1,2,3,8,9] [_,_,_,_,_,_] (fun q:Nat×Fa=>[(10,.int .i64 (q.1:Int))]) (kz [_]) (fun q=>[Own 34 5 A8 1 1 [.int .i64 0,.slice none 0 0,.slice none 0 0,.int .i64 0,.slice none 0 0],Own 34 5 A9 1 1 [.int .i64 (S:Int),.slice q.2.D q.1 q.2.cD,.slice q.2.W q.1 q.2.cW,.int .i64 1000,.slice q.2.E q.1 q.2.cE],Own 24 1 q.2.D q.1 q.2.cD (aC q.2.hs (B8 (flD b S n q.1))),aw 5 q.2.hs (B8 (flD b S n q.1)),Own 3 1 q.2.W q.1 q.2.cW (I64 (List.replicate q.1 0)),Own 4 1 q.2.E q.1 q.2.cE (Bs (List.replicate q.1 false))]) (fun q=>q.1≤n+k∧q.2.hs.length=q.1) (fun q=>n+k-q.1) (0,⟨none,0,[],none,0,none,0⟩) ⟨Nat.zero_le _,rfl⟩ (lk [0] [0,1,2,5,3,4]) ?_;apply Y 0xc40f;intro t f ht hh
 dsimp only at ht hh ⊢;apply Zu 0x791dab858<;>intro
 ·apply Y 0x599;have htS:t*S≤200*4096:=Nat.mul_le_mul oe hS2;apply Y 0xac;refine L.call (js:=[]) (js':=[0,1,2,3,4,5]) (dk none [] 0 t S (by first|omega|exact Nat.zero_le _) oe oe hS1 hS2) rfl rfl rfl ob ⟨Has.nil,trivial⟩ rfl ?_;apply Y 0x19;intro A23 c23;refine lnr [_,_,_,_,_,_,_] [0,1,2,3,4,5,6] ?_;apply Y 0x1;refine fE (fun z:Option Addr×Nat=>[(0,.slice BA b.length bc),(1,.int .i64 (S:Int)),(2,.int .i64 (n:Int)),(3,.int .i64 (k:Int)),(8,ag A8 0),(9,ag A9 0),(10,.int .i64 (t:Int)),(11,.slice z.1 S z.2)]) (fun z:Option Addr×Nat=>[Rd BA (U8 b)]) (fun z:Option Addr×Nat=>[Own 34 5 A8 1 1 [.int .i64 0,.slice none 0 0,.slice none 0 0,.int .i64 0,.slice none 0 0],Own 34 5 A9 1 1 [.int .i64 (S:Int),.slice f.D t f.cD,.slice f.W t f.cW,.int .i64 1000,.slice f.E t f.cE],Own 24 1 f.D t f.cD (aC f.hs (B8 (flD b S n t))),aw 5 f.hs (B8 (flD b S n t)),Own 3 1 f.W t f.cW (I64 (List.replicate t 0)),Own 4 1 f.E t f.cE (Bs (List.replicate t false)),Own 5 1 z.1 S z.2 (U8 (flC b S n t))]) (fun z:Option Addr×Nat=>True) ?_ ?_
  ·apply Zu 0x79d848<;>intro
   ·apply Y 0xb878;refine al (dk BA b bc t S (by first|omega|exact Nat.zero_le _) oe oe hS1 hS2) ?_;apply Y 0x19;intro A30 c30;refine lnr [_,_,_,_,_,_,_,_] [0,1,2,3,4,5,6,7] ?_;apply Y 0x81e;refine QE.join ((A30,c30)) OS (by exact lk [0] [2,3,4,5,6,7,0] (hh:=⟨rfl,rfl,rfl,rfl,rfl,rfl,(congrArg some (ay rfl (by unfold flC;rw [if_pos oe]))),trivial⟩))
   apply Y 0x7a;refine QE.join ((A23,c23)) OS (by exact lk [0] [1,2,3,4,5,6,0] (hh:=⟨rfl,rfl,rfl,rfl,rfl,rfl,(congrArg some (ay rfl (by unfold flC;rw [if_neg oe]))),trivial⟩))
  rintro ⟨YA,yc⟩ _;apply Y 0x2b7fa48d4e;intro A34;refine L.append (j:=2) rfl rfl rfl rfl ob rfl rfl rfl rfl (Src.o 7 rfl) rfl (by intro v hv;simp at hv;subst hv;rfl) oe QD rfl (fun A35 cc35=>?_);apply Y 0x2bfa48989c;intro A39;refine L.append (j:=4) rfl rfl rfl rfl ob rfl rfl rfl rfl (Src.o 8 rfl) rfl (by intro v hv;simp at hv;subst hv;rfl) oe oU rfl (fun A40 cc40=>?_);apply Y 0x2bfa78989c;intro A44;refine L.append (j:=5) rfl rfl rfl rfl ob rfl rfl rfl rfl (Src.o 9 rfl) rfl (by intro v hv;simp at hv;subst hv;rfl) oe oH rfl (fun A45 cc45=>?_);apply Y 0x9a60e9c;refine QE.absorb 3 6 rfl rfl [0,1,2,4,5,7,8,9] ob ?_;have hD:=CE b S n t;have hcl:=dO b S n t;refine QE.round (i:=(t,f)) ((t+1,⟨A35,cc35,f.hs++[(YA,yc)],A40,cc40,A45,cc45⟩)) (by exact ⟨by dsimp only;omega,by dsimp only;rw [List.length_append,hh];rfl⟩) ot (by exact lk [0] [1,2,3,0,4,5] (hh:=⟨rfl,rfl,(congrArg some (ay rfl (by dsimp only;rw [hD,← ng (by rw [cV];exact hh),hcl]))),(congrArg some (by dsimp only;rw [hD,← As])),(congrArg some (ay rfl (by dsimp only;rw [List.replicate_succ',← cK];rfl))),(congrArg some (ay rfl (by dsimp only;rw [List.replicate_succ',← K4];rfl))),trivial⟩))
 apply Y 0xe85bc5e48a9;refine qrt [] [2,3,4,5] [_] rfl ⟨⟨_,_,0,_,rfl,rfl,Src.o 0 rfl,.inl ⟨rfl,by decide,_,rfl,rfl,rfl⟩⟩,trivial⟩ ?_;obtain rfl:t=n+k:=oe;exact ⟨f,rfl,rfl,rfl,hh⟩
theorem vg (n w0 w1:Nat)(w2:Int)(hn:n≤1000)(hw0:w0≤1000)(hw1:w1≤1000)(hw2:w2≤1000):
    Ctr X 40 [.int .i64 (n:Int),.agg (List.toArray [.int .i64 (w0:Int),.int .i64 (w1:Int),.int .i64 w2])] [] [] (fun v R' H'=>∃ (G U L:Option Addr) (gc uc lc:Nat),v=.agg (List.toArray [.int .i64 (n:Int),.int .i64 (n:Int),.int .i64 ((n:Int)+1),.int .i64 ((n:Int)+2),.int .i64 ((n:Int)+3),.slice G w0 gc,.slice U w1 uc,.slice L w2.toNat lc])∧R'=[]∧H'=[Own 3 1 G w0 gc (I64 (upI (n+4) w0)),Own 3 1 U w1 uc (I64 (upI (n+4+w0) w1)),Own 3 1 L w2.toNat lc (I64 (upI (n+4+w0+w1) w2.toNat))]):=by
 refine co Tryz.func40 ?_;intro β;apply Y 0x6a;intro A3;apply Y 0xa8;intro A4;apply Y 0xab8c7ccb;refine sp (Ev.cast (u:=.int .i64 (((n+4):Nat):Int)) (Ev.add rfl rfl oe oe) (congrArg (Value.int .i64) oe)) ?_;apply Y 0xa8babf0fda7da7bf0fdab8481;intro A6;apply Y 0xaa178320f320f320f5cb4c;refine lp [0,3,4,6] [_,_,_,_] (fun q:Nat×Option Addr×Nat=>[(7,.int .i64 (q.1:Int)),(5,.int .i64 (((n+4)+q.1:Nat):Int))]) (kz [_]) (fun q=>[Own 37 8 A4 1 1 [.int .i64 0,.int .i64 0,.int .i64 0,.int .i64 0,.int .i64 0,.slice none 0 0,.slice none 0 0,.slice none 0 0],Own 37 8 A6 1 1 [.int .i64 (n:Int),.int .i64 (n:Int),.int .i64 ((n:Int)+1),.int .i64 ((n:Int)+2),.int .i64 ((n:Int)+3),.slice q.2.1 q.1 q.2.2,.slice none 0 0,.slice none 0 0],Own 3 1 q.2.1 q.1 q.2.2 (I64 (upI (n+4) q.1)),Own 3 1 none 0 0 [],Own 3 1 none 0 0 []]) (fun q=>q.1≤w0) (fun q=>w0-q.1) (0,none,0) (Nat.zero_le _) (lk [0] [0,1,2,3,4]) ?_;apply Y 0xf1e;intro i GA gc hi
 dsimp only at hi ⊢;apply Y 0x758;refine sp (av (k:=0) (m:=0) rfl rfl rfl rfl rfl rfl ob (Src.r 0 rfl) (Nat.zero_lt_succ _) rfl) ?_;apply Zu 0x791a4e<;>intro
 ·apply Y 0x2b7fa4899;intro A32;refine L.append (j:=2) rfl rfl rfl rfl ob rfl rfl rfl rfl (Src.o 5 rfl) rfl (by intro v hv;simp at hv;subst hv;rfl) oe oU rfl (fun A33 cc33=>?_);apply Y 0xab989c;refine sp (Ev.cast (u:=.int .i64 (((n+4+(i+1)):Nat):Int)) (Ev.add rfl rfl oe oe) (congrArg (Value.int .i64) oe)) ?_;apply Y 0x9a81e;have he:=k7 (n+4) i;refine QE.round (i:=(i,GA,gc)) ((i+1,A33,cc33)) ot ot (by exact lk [0] [0,1,2,3,4] (hh:=⟨rfl,rfl,(congrArg some (ay rfl QQ)),rfl,rfl,trivial⟩))
 apply Y 0xcd5a9;obtain rfl:w0=i:=oe;refine lp [0,3,4,6] [_,_,_,_] (fun q:Nat×Option Addr×Nat=>[(8,.int .i64 (q.1:Int)),(5,.int .i64 (((n+4+w0)+q.1:Nat):Int))]) (kz [_]) (fun q=>[Own 37 8 A4 1 1 [.int .i64 0,.int .i64 0,.int .i64 0,.int .i64 0,.int .i64 0,.slice none 0 0,.slice none 0 0,.slice none 0 0],Own 37 8 A6 1 1 [.int .i64 (n:Int),.int .i64 (n:Int),.int .i64 ((n:Int)+1),.int .i64 ((n:Int)+2),.int .i64 ((n:Int)+3),.slice GA w0 gc,.slice q.2.1 q.1 q.2.2,.slice none 0 0],Own 3 1 GA w0 gc (I64 (upI (n+4) w0)),Own 3 1 q.2.1 q.1 q.2.2 (I64 (upI (n+4+w0) q.1)),Own 3 1 none 0 0 []]) (fun q=>q.1≤w1) (fun q=>w1-q.1) (0,none,0) (Nat.zero_le _) (lk [0] [0,1,2,3,4]) ?_;apply Y 0xf1e;intro i UA uc hi
 dsimp only at hi ⊢;apply Y 0x758;refine sp (av (k:=1) (m:=1) rfl rfl rfl rfl rfl rfl ob (Src.r 0 rfl) (Nat.zero_lt_succ _) rfl) ?_;apply Zu 0x791a4e<;>intro
 ·apply Y 0x2b7fa4899;intro A46;refine L.append (j:=3) rfl rfl rfl rfl ob rfl rfl rfl rfl (Src.o 5 rfl) rfl (by intro v hv;simp at hv;subst hv;rfl) oe oU rfl (fun A47 cc47=>?_);apply Y 0xab989c;refine sp (Ev.cast (u:=.int .i64 (((n+4+w0+(i+1)):Nat):Int)) (Ev.add rfl rfl oe oe) (congrArg (Value.int .i64) oe)) ?_;apply Y 0x9a81e;have he:=k7 (n+4+w0) i;refine QE.round (i:=(i,UA,uc)) ((i+1,A47,cc47)) ot ot (by exact lk [0] [0,1,2,3,4] (hh:=⟨rfl,rfl,rfl,(congrArg some (ay rfl QQ)),rfl,trivial⟩))
 apply Y 0xcd5a9;obtain rfl:w1=i:=oe;refine lp [0,3,4,6] [_,_,_,_] (fun q:Nat×Option Addr×Nat=>[(9,.int .i64 (q.1:Int)),(5,.int .i64 (((n+4+w0+w1)+q.1:Nat):Int))]) (kz [_]) (fun q=>[Own 37 8 A4 1 1 [.int .i64 0,.int .i64 0,.int .i64 0,.int .i64 0,.int .i64 0,.slice none 0 0,.slice none 0 0,.slice none 0 0],Own 37 8 A6 1 1 [.int .i64 (n:Int),.int .i64 (n:Int),.int .i64 ((n:Int)+1),.int .i64 ((n:Int)+2),.int .i64 ((n:Int)+3),.slice GA w0 gc,.slice UA w1 uc,.slice q.2.1 q.1 q.2.2],Own 3 1 GA w0 gc (I64 (upI (n+4) w0)),Own 3 1 UA w1 uc (I64 (upI (n+4+w0) w1)),Own 3 1 q.2.1 q.1 q.2.2 (I64 (upI (n+4+w0+w1) q.1))]) (fun q=>q.1≤w2.toNat) (fun q=>w2.toNat-q.1) (0,none,0) (Nat.zero_le _) (lk [0] [0,1,2,3,4]) ?_;apply Y 0xf1e;intro i LA lc hi
 dsimp only at hi ⊢;apply Y 0x758;refine sp (av (k:=2) (m:=2) rfl rfl rfl rfl rfl rfl ob (Src.r 0 rfl) (Nat.zero_lt_succ _) rfl) ?_;apply Zu 0x791a4e<;>intro
 ·apply Y 0x2b7fa4899;intro A60;refine L.append (j:=4) rfl rfl rfl rfl ob rfl rfl rfl rfl (Src.o 5 rfl) rfl (by intro v hv;simp at hv;subst hv;rfl) oe oU rfl (fun A61 cc61=>?_);apply Y 0xab989c;refine sp (Ev.cast (u:=.int .i64 (((n+4+w0+w1+(i+1)):Nat):Int)) (Ev.add rfl rfl oe oe) (congrArg (Value.int .i64) oe)) ?_;apply Y 0x9a81e;have he:=k7 (n+4+w0+w1) i;refine QE.round (i:=(i,LA,lc)) ((i+1,A61,cc61)) ot ot (by exact lk [0] [0,1,2,3,4] (hh:=⟨rfl,rfl,rfl,rfl,(congrArg some (ay rfl QQ)),trivial⟩))
 apply Y 0xe85bc5e48a9;refine qrt [] [2,3,4] [_] rfl ⟨⟨_,_,0,_,rfl,rfl,Src.o 0 rfl,.inl ⟨rfl,by decide,_,rfl,rfl,rfl⟩⟩,trivial⟩ ?_;obtain rfl:i=w2.toNat:=oe;exact ⟨GA,UA,LA,gc,uc,lc,rfl,rfl,rfl⟩
end Go.Proofs.YtbpddeiogcgegaaGreat
