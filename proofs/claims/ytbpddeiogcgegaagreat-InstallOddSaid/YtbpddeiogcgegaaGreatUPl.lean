/-
  Part of a proof.
-/
import Derived.Test.YtbpddeiogcgegaaGreatUSlG
set_option maxHeartbeats 0
set_option maxRecDepth 4000
set_option linter.all false
namespace Go.Sl
structure Fl where
  size:Nat
  data:List (List UInt8)
  wear:List Int
  limit:Int
  dead:List Bool
  deriving DecidableEq
structure Fa where
  D:Option Addr
  cD:Nat
  hs:List Hd
  W:Option Addr
  cW:Nat
  E:Option Addr
  cE:Nat
def flL (f:Fl)(a:Fa):List Value:=[.int .i64 (f.size:Int),.slice a.D f.data.length a.cD,.slice a.W f.wear.length a.cW,.int .i64 f.limit,.slice a.E f.dead.length a.cE]
def flV (f:Fl)(a:Fa):Value:=.agg (List.toArray (flL f a))
structure Fl.Ok (f:Fl):Prop where
  s1:1≤f.size
  s2:f.size≤4096
  n1:1≤f.data.length
  n2:f.data.length≤64
  wl:f.wear.length=f.data.length
  dl:f.dead.length=f.data.length
  rows:∀ i,i<f.data.length→(f.data.getD i []).length=f.size
  l1:1≤f.limit
  l2:f.limit≤100000
  wear:∀ i,i<f.data.length→0≤f.wear.getD i 0∧f.wear.getD i 0≤f.limit
structure Fl.Sm (f:Fl):Prop where
  n:f.data.length≤1000000
  w:f.wear.length≤1000000
  d:f.dead.length≤1000000
  r:∀ i,(f.data.getD i []).length≤1000000
theorem dN {α:Type}{l:List α}{i:Nat}{d:α}(h:l.length≤i):l.getD i d=d:=by simp [h]
theorem Fl.Ok.sm {f:Fl}(h:f.Ok):f.Sm:=by
 obtain ⟨_,_,_,_,_,_,hr,_,_,_⟩:=h;refine ⟨by omega,by omega,by omega,fun i=>?_⟩
 by_cases hi:i<f.data.length
 ·rw [hr i hi];exact Zm 0x18
 rw [dN oe];exact Zm 0xe2e
theorem a8 {α:Type}{l m:List α}{d:α}(h:l.length=m.length)(he:∀ i,i<l.length→l.getD i d=m.getD i d):l=m:=by
 refine List.ext_getElem h fun i h1 h2=>?_
 have:=he i h1
 simpa [List.getD_eq_getElem?_getD,h1,h2] using this
theorem ng {hs:List Hd}{ls:List (List UInt8)}(h:hs.length=ls.length)(g:Hd)(l:List UInt8):aC hs (B8 ls)++[.slice g.1 l.length g.2]=aC (hs++[g]) (B8 (ls++[l])):=by
 have:=nf (hs:=hs) (vss:=B8 ls) obE g (U8 l);rw [aJ] at this;rw [this,← K5];exact Zm 0x2
theorem As (ls:List (List UInt8))(l:List UInt8):B8 ls++[U8 l]=B8 (ls++[l]):=by simp [B8]
theorem K3 (m:Nat)(x:Bool):List.replicate m (Value.bool x)=Bs (List.replicate m x):=by simp [Bs]
theorem ay {e sz n n' c:Nat}{A:Option Addr}{xs ys:List Value}(hn:n=n')(h:xs=ys):Own e sz A n c xs=Own e sz A n' c ys:=by rw [h,hn]
theorem dE {α:Type}(m i:Nat)(x d:α)(h:i<m):(List.replicate m x).getD i d=x:=by simp [h]
structure Fo where
  kind:Int
  sec:Int
  at_:Int
  data:List UInt8
  deriving DecidableEq
def aU (f:Fl)(x:Fo):Int:=
  if x.kind≠1∧x.kind≠2 then 1
  else if ¬(0≤x.sec∧x.sec≤(f.data.length:Int)-1)∨x.kind=2∧(¬(0≤x.at_∧x.at_≤(f.size:Int))∨(x.data.length:Int)>(f.size:Int)-x.at_) then 170
  else if f.dead.getD x.sec.toNat false=true then 171
  else if x.kind=1∧f.wear.getD x.sec.toNat 0=f.limit then 172 else 0
section
variable {f:Fl}{x:Fo}
theorem uy (h:x.kind≠1∧x.kind≠2):aU f x=1:=by unfold aU;rw [if_pos h]
theorem CV (h:x.kind=1∨x.kind=2)(h2:¬(0≤x.sec∧x.sec≤(f.data.length:Int)-1)∨x.kind=2∧(¬(0≤x.at_∧x.at_≤(f.size:Int))∨(x.data.length:Int)>(f.size:Int)-x.at_)):aU f x=170:=by
 unfold aU;rw [if_neg oe,if_pos h2]
theorem ux (h:x.kind=1∨x.kind=2)(h2:0≤x.sec∧x.sec≤(f.data.length:Int)-1∧(x.kind=2→0≤x.at_∧x.at_≤(f.size:Int)∧(x.data.length:Int)≤(f.size:Int)-x.at_))(h3:f.dead.getD x.sec.toNat false=true):aU f x=171:=by
 unfold aU;rw [if_neg oe,if_neg oe,if_pos h3]
theorem uw (_h:x.kind=1∨x.kind=2)(h2:0≤x.sec∧x.sec≤(f.data.length:Int)-1∧(x.kind=2→0≤x.at_∧x.at_≤(f.size:Int)∧(x.data.length:Int)≤(f.size:Int)-x.at_))(h3:f.dead.getD x.sec.toNat false=false)
    (h4:x.kind=1∧f.wear.getD x.sec.toNat 0=f.limit):aU f x=172:=by
 unfold aU;rw [if_neg oe,if_neg oe,if_neg (by rw [h3];simp),if_pos h4]
theorem iM (h:x.kind=1∨x.kind=2)(h2:0≤x.sec∧x.sec≤(f.data.length:Int)-1∧(x.kind=2→0≤x.at_∧x.at_≤(f.size:Int)∧(x.data.length:Int)≤(f.size:Int)-x.at_))(h3:f.dead.getD x.sec.toNat false=false)
    (h4:¬(x.kind=1∧f.wear.getD x.sec.toNat 0=f.limit)):aU f x=0:=by
 unfold aU;rw [if_neg oe,if_neg oe,if_neg (by rw [h3];simp),if_neg h4]
theorem dm (h:aU f x=0):(x.kind=1∨x.kind=2)∧(0≤x.sec∧x.sec≤(f.data.length:Int)-1∧(x.kind=2→0≤x.at_∧x.at_≤(f.size:Int)∧(x.data.length:Int)≤(f.size:Int)-x.at_))∧
    f.dead.getD x.sec.toNat false=false∧¬(x.kind=1∧f.wear.getD x.sec.toNat 0=f.limit):=by
 unfold aU at h
 split at h
 ·cases h
 split at h
 ·cases h
 split at h
 ·cases h
 split at h
 ·cases h
 next h1 h2 h3 h4=>exact ⟨by omega,by omega,by simpa using h3,h4⟩
def AA (x:Fo)(i:Nat)(o:UInt8):UInt8:=
  if x.kind=1 then 255 else if x.at_≤(i:Int)∧(i:Int)-x.at_<(x.data.length:Int) then o&&&x.data.getD ((i:Int)-x.at_).toNat 0 else o
theorem Eu (h:x.kind=1)(i:Nat)(o:UInt8):AA x i o=255:=if_pos h
theorem zP {i:Nat}{o:UInt8}(h:x.kind≠1)(hi:x.at_≤(i:Int)∧(i:Int)-x.at_<(x.data.length:Int)):AA x i o=o&&&x.data.getD ((i:Int)-x.at_).toNat 0:=by unfold AA;rw [if_neg h,if_pos hi]
theorem Da {i:Nat}{o:UInt8}(h:x.kind≠1)(hi:¬(x.at_≤(i:Int)∧(i:Int)-x.at_<(x.data.length:Int))):AA x i o=o:=by unfold AA;rw [if_neg h,if_neg hi]
def IC (o w m:UInt8):UInt8:=o&&& ~~~m|||w&&&m
def Av (f:Fl)(x:Fo)(mk:Nat→UInt8)(i:Nat):UInt8:=IC ((f.data.getD x.sec.toNat []).getD i 0) (AA x i ((f.data.getD x.sec.toNat []).getD i 0)) (mk i)
def vP (f:Fl)(x:Fo)(mk:Nat→UInt8):List UInt8:=(List.range f.size).map (Av f x mk)
def iK (f:Fl)(x:Fo)(mk:Nat→UInt8):Fl:=
  { f with data:=f.data.set x.sec.toNat (vP f x mk),wear:=if x.kind=1 then f.wear.set x.sec.toNat (f.wear.getD x.sec.toNat 0+1) else f.wear }
def flz:Fl:=⟨0,[],[],0,[]⟩
def az:Fa:=⟨none,0,[],none,0,none,0⟩
def fK (f:Fl)(x:Fo)(mk:Nat→UInt8):Fl:=if aU f x=0 then iK f x mk else flz
end
def vS {α:Type}(g:Nat→α)(l:List α)(k:Nat):List α:=(List.range k).map g++l.drop k
theorem xO {α:Type}(g:Nat→α)(l:List α):vS g l 0=l:=by simp [vS]
theorem lL {α:Type}{g:Nat→α}{l:List α}{k:Nat}(h:k≤l.length):(vS g l k).length=l.length:=by simp [vS];omega
theorem B0 {α:Type}{g:Nat→α}{l:List α}{k:Nat}(h:k<l.length):(vS g l k).set k (g k)=vS g l (k+1):=by
 unfold vS;rw [List.set_append_right _ _ oO,List.range_succ,List.map_append,List.append_assoc]
 congr 1;have:l.drop k=l[k]::l.drop (k+1):=List.drop_eq_getElem_cons h;rw [List.length_map,List.length_range,Nat.sub_self,this];exact Zm 0x2
theorem B1 {α:Type}{g:Nat→α}{l:List α}{k:Nat}(hk:k≤l.length)(d:α)(h:∀ i,k≤i→i<l.length→g i=l.getD i d):vS g l k=(List.range l.length).map g:=by
 refine a8 (d:=d) (by rw [lL hk];simp) fun i hi=>?_
 rw [lL hk] at hi;have e2:((List.range l.length).map g).getD i d=g i:=by simp [List.getD_eq_getElem?_getD,hi]
 rw [e2]
 unfold vS
 by_cases hik:i<k
 ·rw [List.getD_eq_getElem?_getD,List.getElem?_append_left (by simpa using hik)]
  simp [hik]
 rw [h i oe hi,List.getD_eq_getElem?_getD,List.getElem?_append_right O8]
 simp only [List.length_map,List.length_range,List.getElem?_drop];rw [show k+(i-k)=i from by omega,List.getD_eq_getElem?_getD]
theorem yv (o w:UInt8):IC o w 0=o:=by
 apply UInt8.eq_of_toBitVec_eq
 simp [IC]
theorem yw (o w:UInt8):IC o w 255=w:=by
 apply UInt8.eq_of_toBitVec_eq
 unfold IC
 ext i hi;have h255:((255:UInt8).toBitVec).getLsbD i=true:=by
  have:∀ j,j<8→((255:UInt8).toBitVec).getLsbD j=true:=ob
  exact this i hi
 simp [BitVec.getLsbD_eq_getElem hi] at h255 ⊢
 exact fun _=>h255
theorem aZ {α:Type}{l:List α}{i:Nat}(h:i<l.length)(x d:α):(l.set i x).getD i d=x:=QL
theorem getD_set_ne {α:Type}{l:List α}{i j:Nat}(h:i≠j)(x d:α):(l.set i x).getD j d=l.getD j d:=QL
theorem Bc {α:Type}{l:List α}{i:Nat}(d:α):l.set i (l.getD i d)=l:=by
 refine List.ext_getElem oO fun j h1 h2=>?_
 rw [List.getElem_set]
 split
 ·next h=>subst h;simp [List.getD_eq_getElem?_getD,h2]
 exact Zm 0x2
theorem ak {α:Type}{g:Nat→α}{n i:Nat}(h:i<n)(d:α):((List.range n).map g).getD i d=g i:=QL
def fB (f:Fl)(x:Fo):List UInt8:=(List.range f.size).map fun i=>AA x i ((f.data.getD x.sec.toNat []).getD i 0)
theorem gP (f:Fl)(x:Fo):(fB f x).length=f.size:=by simp [fB]
theorem vG {f:Fl}{x:Fo}{k:Nat}(h:k<f.size):(U8 (fB f x))[k]?=some (.int .u8 ((AA x k ((f.data.getD x.sec.toNat []).getD k 0)).toNat:Int)):=by
 rw [bp (by rw [gP];exact h)]
 unfold fB;rw [ak h]
theorem C6 {f:Fl}{x:Fo}(h:x.kind=1):fB f x=List.replicate f.size 255:=by
 unfold fB
 simp only [Eu h];rw [List.map_const',List.length_range]
def vH (row data:List UInt8)(p k:Nat):List UInt8:=(List.range row.length).map fun i=>if p≤i∧i<p+k then row.getD i 0&&&data.getD (i-p) 0 else row.getD i 0
theorem cg (row data:List UInt8)(p k:Nat):(vH row data p k).length=row.length:=by simp [vH]
theorem zO (row data:List UInt8)(p:Nat):vH row data p 0=row:=by
 refine a8 (d:=0) (cg _ _ _ _) fun i hi=>?_
 rw [cg] at hi
 unfold vH;rw [ak hi,if_neg oe]
theorem C8 {row data:List UInt8}{p k:Nat}(h:p+k<row.length):(vH row data p k).getD (p+k) 0=row.getD (p+k) 0:=by
 unfold vH;rw [ak h,if_neg oe]
theorem C7 {row data:List UInt8}{p k:Nat}(h:p+k<row.length):(vH row data p k).set (p+k) (row.getD (p+k) 0&&&data.getD k 0)=vH row data p (k+1):=by
 refine a8 (d:=0) (by rw [List.length_set,cg,cg]) fun i hi=>?_
 rw [List.length_set,cg] at hi
 by_cases hik:p+k=i
 ·subst hik;rw [aZ (by rw [cg];exact h)]
  unfold vH;rw [ak h,if_pos oe,show p+k-p=k from by omega]
 rw [getD_set_ne hik]
 unfold vH;rw [ak hi,ak hi]
 by_cases hc:p≤i∧i<p+k
 ·rw [if_pos hc,if_pos oe]
 rw [if_neg hc,if_neg oe]
theorem C9 {f:Fl}{x:Fo}(hk:x.kind≠1)(h0:0≤x.at_)(hl:(f.data.getD x.sec.toNat []).length=f.size):vH (f.data.getD x.sec.toNat []) x.data x.at_.toNat x.data.length=fB f x:=by
 refine a8 (d:=0) (by rw [cg,gP,hl]) fun i hi=>?_
 rw [cg] at hi
 unfold vH fB;rw [ak hi,ak oe]
 by_cases hc:x.at_.toNat≤i∧i<x.at_.toNat+x.data.length
 ·rw [if_pos hc,zP hk oe,show ((i:Int)-x.at_).toNat=i-x.at_.toNat from by omega]
 rw [if_neg hc,Da hk oe]
theorem fo (f:Fl)(x:Fo)(mk:Nat→UInt8):(vP f x mk).length=f.size:=by simp [vP]
theorem xh {hs:List Hd}{ls:List (List UInt8)}{s:Nat}{l:List UInt8}(h:hs.length=ls.length)(hs':s<ls.length)(hl:l.length=(ls.getD s []).length):aC hs (B8 (ls.set s l))=aC hs (B8 ls):=by
 refine List.ext_getElem? fun i=>?_
 by_cases hi:i<ls.length
 ·rw [aN (by rw [List.length_set];exact h) (by rw [List.length_set];exact hi),aN h hi]
  by_cases his:s=i
  ·subst his;rw [aZ hs',hl]
  rw [getD_set_ne his]
 rw [List.getElem?_eq_none (by rw [bB (by rw [b6,List.length_set];exact h),b6,List.length_set];omega),List.getElem?_eq_none (by rw [bB obE,b6];omega)]
theorem cX {f:Fl}{x:Fo}(hE:aU f x=0)(mk:Nat→UInt8):fK f x mk=iK f x mk:=if_pos hE
theorem mh {f:Fl}{x:Fo}(hE:aU f x≠0)(mk:Nat→UInt8):fK f x mk=flz:=if_neg hE
theorem uX {f:Fl}{x:Fo}{mk mk':Nat→UInt8}(h:∀ i,i<f.size→mk i=mk' i):vP f x mk=vP f x mk':=by
 unfold vP;refine List.map_congr_left fun i hi=>?_
 unfold Av;rw [h i (by simpa using hi)]
theorem vr {f:Fl}{x:Fo}{mk mk':Nat→UInt8}(h:∀ i,i<f.size→mk i=mk' i):fK f x mk=fK f x mk':=by
 unfold fK iK;rw [uX h]
theorem bF {f:Fl}(x:Fo)(mk:Nat→UInt8):(iK f x mk).data.length=f.data.length:=List.length_set
theorem n3 {f:Fl}(x:Fo)(mk:Nat→UInt8):(iK f x mk).wear.length=f.wear.length:=by
 apply Y 0xd4e8fe
 split<;>simp
theorem Gm {f:Fl}{x:Fo}(ok:f.Ok)(hE:aU f x=0)(mk:Nat→UInt8):(iK f x mk).Ok:=by
 apply Y 0xa92f;intro q1 q2 q3 q4 q5 q6;obtain ⟨o1,o2,o3,o4,o5,o6,o7,o8,o9,o10⟩:=ok;refine ⟨o1,o2,by rw [bF];exact o3,by rw [bF];exact o4,by rw [bF,n3];exact o5,by rw [bF];exact o6,fun i hi=>?_,o8,o9,fun i hi=>?_⟩
 ·rw [bF] at hi
  show ((f.data.set x.sec.toNat (vP f x mk)).getD i []).length=f.size
  by_cases his:x.sec.toNat=i
  ·subst his;rw [aZ hi,fo]
  rw [getD_set_ne his]
  exact o7 i hi
 rw [bF] at hi
 show 0≤(if x.kind=1 then f.wear.set x.sec.toNat (f.wear.getD x.sec.toNat 0+1) else f.wear).getD i 0∧(if x.kind=1 then f.wear.set x.sec.toNat (f.wear.getD x.sec.toNat 0+1) else f.wear).getD i 0≤f.limit
 split
 ·next hk=>
  by_cases his:x.sec.toNat=i
  ·subst his;rw [aZ oe];have:=o10 _ hi;have:f.wear.getD x.sec.toNat 0≠f.limit:=fun h=>q6 ⟨hk,h⟩
   exact Zm 0x18
  rw [getD_set_ne his]
  exact o10 i hi
 exact o10 i hi
structure Nx where
  x:Fo
  done:Bool
  e:Int
  deriving DecidableEq
def fo0:Fo:=⟨0,0,0,[]⟩
def k9 (row want:List UInt8)(k:Nat):Bool:=(List.range k).all fun i=>want.getD i 0&&& ~~~(row.getD i 0)==0
theorem mU (row want:List UInt8)(k:Nat):k9 row want (k+1)=(k9 row want k&&(want.getD k 0&&& ~~~(row.getD k 0)==0)):=by
 unfold k9;exact Zm 0x51e311f
theorem we {row want:List UInt8}{k n:Nat}(hk:k<n)(h:want.getD k 0&&& ~~~(row.getD k 0)≠0):k9 row want n=false:=by
 unfold k9
 exact List.all_eq_false.2 ⟨k,by simpa using hk,by simpa using h⟩
theorem ey (r w:UInt8):r&&&w=w↔w&&& ~~~r=0:=by
 rw [← UInt8.toBitVec_inj,← UInt8.toBitVec_inj]
 constructor
 ·intro h
  ext i hi;apply Y 0x952f;intro h1
  simp [BitVec.getLsbD_eq_getElem hi] at h1 ⊢
  cases hr:r.toBitVec[i]<;>cases hw:w.toBitVec[i]<;>simp_all
 intro h
 ext i hi;apply Y 0x952f;intro h1
 simp [BitVec.getLsbD_eq_getElem hi] at h1 ⊢
 cases hr:r.toBitVec[i]<;>cases hw:w.toBitVec[i]<;>simp_all
def dW (f:Fl)(sec:Int)(want:List UInt8):Fo:=if k9 (f.data.getD sec.toNat []) want f.size=true then ⟨2,sec,0,want⟩ else ⟨1,sec,0,[]⟩
def aO (f:Fl)(sec:Int)(want:List UInt8):Nx:=
  if ¬(0≤sec∧sec≤(f.data.length:Int)-1)∨want.length≠f.size then ⟨fo0,false,170⟩
  else if f.data.getD sec.toNat []=want then ⟨fo0,true,0⟩
  else if aU f (dW f sec want)≠0 then ⟨fo0,false,aU f (dW f sec want)⟩ else ⟨dW f sec want,false,0⟩
section
variable {f:Fl}{sec:Int}{want:List UInt8}
theorem Hg (h:¬(0≤sec∧sec≤(f.data.length:Int)-1)∨want.length≠f.size):aO f sec want=⟨fo0,false,170⟩:=if_pos h
theorem ko (h:¬(¬(0≤sec∧sec≤(f.data.length:Int)-1)∨want.length≠f.size))(h2:f.data.getD sec.toNat []=want):aO f sec want=⟨fo0,true,0⟩:=by unfold aO;rw [if_neg h,if_pos h2]
theorem mT {x:Fo}(h:¬(¬(0≤sec∧sec≤(f.data.length:Int)-1)∨want.length≠f.size))(h2:f.data.getD sec.toNat []≠want)(hx:dW f sec want=x)(h3:aU f x≠0):aO f sec want=⟨fo0,false,aU f x⟩:=by
 subst hx
 unfold aO;exact Zm 0xe11f
theorem km {x:Fo}(h:¬(¬(0≤sec∧sec≤(f.data.length:Int)-1)∨want.length≠f.size))(h2:f.data.getD sec.toNat []≠want)(hx:dW f sec want=x)(h3:¬ aU f x≠0):aO f sec want=⟨x,false,0⟩:=by
 subst hx
 unfold aO;rw [if_neg h,if_neg h2,if_neg h3]
theorem sA (h:k9 (f.data.getD sec.toNat []) want f.size=true):dW f sec want=⟨2,sec,0,want⟩:=if_pos h
theorem sx (h:k9 (f.data.getD sec.toNat []) want f.size=false):dW f sec want=⟨1,sec,0,[]⟩:=if_neg Qu
end
def AB (sec:Int)(want:List UInt8)(W:Option Addr)(wc:Nat)(good:Bool)(x:Fo)(XA:Option Addr)(xc:Nat):Prop:=
  (good=true∧x=⟨2,sec,0,want⟩∧XA=W∧xc=wc)∨(good=false∧x=⟨1,sec,0,[]⟩∧XA=none∧xc=0)
theorem AB.next {sec:Int}{want:List UInt8}{W:Option Addr}{wc:Nat}{g:Bool}{x:Fo}{XA:Option Addr}{xc:Nat}(h:AB sec want W wc g x XA xc)(b:Bool)(hb:b=true):AB sec want W wc (g&&b) x XA xc:=by
 subst hb;rw [Bool.and_true];exact Zm 0xc2e
theorem AB.has {sec:Int}{want:List UInt8}{W:Option Addr}{wc:Nat}{g:Bool}{x:Fo}{XA:Option Addr}{xc:Nat}{R H:List Pr}(h:AB sec want W wc g x XA xc)(hw:Has R H (Rd W (U8 want))):Has R H (Rd XA (U8 x.data)):=by
 rcases h with ⟨_,rfl,rfl,_⟩|⟨_,rfl,rfl,_⟩
 ·exact hw
 exact Has.nil
theorem AB.len {sec:Int}{want:List UInt8}{W:Option Addr}{wc:Nat}{g:Bool}{x:Fo}{XA:Option Addr}{xc:Nat}(h:AB sec want W wc g x XA xc):x.data.length≤want.length:=by
 rcases h with ⟨_,rfl,rfl,_⟩|⟨_,rfl,rfl,_⟩<;>simp
theorem AB.eq {f:Fl}{sec:Int}{want:List UInt8}{W:Option Addr}{wc:Nat}{x:Fo}{XA:Option Addr}{xc:Nat}(h:AB sec want W wc (k9 (f.data.getD sec.toNat []) want f.size) x XA xc):dW f sec want=x:=by
 rcases h with ⟨hg,rfl,_⟩|⟨hg,rfl,_⟩
 ·exact sA hg
 exact sx hg
section
variable {X:Cx}{β:Base}{Γ:Env}{R H:List Pr}
theorem Ev.shr {t ty:Nat}{x y:Operand}{k yk:IntKind}{a b:Int}(hx:ev Γ x=some (.int k a))(hy:ev Γ y=some (.int yk b))(h0:0≤b):Ev X β Γ R H (.binOp .shr t x y ty) (.int k (a.fdiv (2^min b.toNat k.bits))):=by
 intro ρ w hρ hw o ho;have hg:(eqGuard .shr t x y (.int k a) (.int yk b)).run X.P w=.ok () w:=qO;have hb:¬ b<0:=oe
 simp [execOp,ho,hρ _ _ hx,hρ _ _ hy,hg,binOp_shr,Op.shift,hb]
end
theorem Has.take {R H:List Pr}{A:Option Addr}{xs:List Value}(h:Has R H (Rd A xs))(m:Nat):Has R H (Rd A (xs.take m)):=by
 refine ⟨fun β w hw j u hu=>h.1 β w hw j u ?_,fun k hk=>h.2 k ⟨fun h0=>hk.1 (by rw [h0,List.take_nil]),hk.2⟩⟩;rw [List.getElem?_take] at hu
 split at hu
 ·exact hu
 cases hu
theorem bu (l:List UInt8)(m:Nat):(U8 l).take m=U8 (l.take m):=by simp [U8,List.map_take]
theorem M1 {a b:UInt8}(h:∀ i,(hi:i<8)→a.toBitVec[i]=b.toBitVec[i]):a=b:=by
 apply UInt8.eq_of_toBitVec_eq
 ext i hi
 exact h i hi
theorem zS (a:UInt8):a&&&0=0:=by
 apply UInt8.eq_of_toBitVec_eq
 ext i hi;exact Zm 0x51e
structure GoodOp (f:Fl)(x:Fo):Prop where
  k:x.kind=1∨x.kind=2
  s:0≤x.sec∧x.sec≤(f.data.length:Int)-1
  p:x.kind=2→0≤x.at_∧x.at_≤(f.size:Int)∧(x.data.length:Int)≤(f.size:Int)-x.at_
section
variable {f:Fl}{x:Fo}{mk:Nat→UInt8}
theorem GoodOp.lt (g:GoodOp f x):x.sec.toNat<f.data.length:=by have:=g.s;omega
theorem kV (h:aU f x=0):GoodOp f x:=⟨(dm h).1,⟨(dm h).2.1.1,(dm h).2.1.2.1⟩,(dm h).2.1.2.2⟩
theorem uf (h:x.sec.toNat<f.data.length):(iK f x mk).data.getD x.sec.toNat []=vP f x mk:=aZ h _ _
theorem vw {i:Nat}(h:x.sec.toNat≠i):(iK f x mk).data.getD i []=f.data.getD i []:=getD_set_ne h _ _
theorem sV {i:Nat}(h:i<f.size)(d:UInt8):(vP f x mk).getD i d=Av f x mk i:=ak h d
theorem vv (hk:x.kind=1)(h:x.sec.toNat<f.wear.length):(iK f x mk).wear.getD x.sec.toNat 0=f.wear.getD x.sec.toNat 0+1:=by
 apply Y 0xd4e8fe;rw [if_pos hk,aZ h]
theorem vu (hk:x.kind≠1):(iK f x mk).wear=f.wear:=by
 apply Y 0xd4e8fe;rw [if_neg hk]
theorem vt {i:Nat}(h:x.sec.toNat≠i):(iK f x mk).wear.getD i 0=f.wear.getD i 0:=by
 apply Y 0xd4e8fe
 split
 ·exact getD_set_ne h _ _
 exact Zm 0x2
theorem Bw {i:Nat}(h:mk i=255):Av f x mk i=AA x i ((f.data.getD x.sec.toNat []).getD i 0):=by
 unfold Av;rw [h,yw]
theorem DO (f:Fl)(x:Fo)(i:Nat):Av f x (fun _=>255) i=AA x i ((f.data.getD x.sec.toNat []).getD i 0):=Bw rfl
structure Kept (f g:Fl):Prop where
  ok:g.Ok
  n:g.data.length=f.data.length
  s:g.size=f.size
  l:g.limit=f.limit
  w:g.wear.length=f.data.length
  e:g.dead.length=f.data.length
  d:g.dead=f.dead
  r:∀ i,i<f.data.length→(g.data.getD i []).length=f.size
theorem jH (ok:f.Ok)(hE:aU f x=0)(mk:Nat→UInt8):Kept f (fK f x mk):=by
 rw [cX hE];have h:=Gm ok hE mk;exact ⟨h,bF _ _,rfl,rfl,by rw [h.wl,bF],by rw [h.dl,bF],rfl,fun i hi=>h.rows i (by rw [bF];exact hi)⟩
theorem vq (hE:aU f x=0){i:Nat}(h:x.sec.toNat≠i):(fK f x mk).data.getD i []=f.data.getD i []:=by rw [cX hE];exact vw h
theorem vp (ok:f.Ok)(hE:aU f x=0){k:Nat}(hk:x.kind=1)(h:(k:Int)=x.sec):f.wear.getD k 0+1=(fK f x mk).wear.getD k 0:=by
 obtain rfl:x.sec.toNat=k:=oe;rw [cX hE,vv hk (by rw [ok.wl];exact (kV hE).lt)]
theorem kO (hE:aU f x=0){k:Nat}(h:¬(x.kind=1∧(k:Int)=x.sec)):f.wear.getD k 0=(fK f x mk).wear.getD k 0:=by
 rw [cX hE]
 by_cases hk:x.kind=1
 ·have:=(kV hE).s;rw [vt (fun e=>h ⟨hk,by omega⟩)]
 rw [vu hk]
end
end Go.Sl
