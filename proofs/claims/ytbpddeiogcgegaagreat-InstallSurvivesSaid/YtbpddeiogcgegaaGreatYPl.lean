/-
  Part of a proof.
-/
import Derived.Test.YtbpddeiogcgegaaGreatYSlK
set_option maxHeartbeats 0
set_option maxRecDepth 4000
set_option linter.all false
namespace Go.Sl
structure Fl where
  size:Nat
  data:List (List UInt8)
  wear:List Int
  limit:Int
  dead:List Bool
  deriving DecidableEq
structure Fa where
  D:Option Addr
  cD:Nat
  hs:List Hd
  W:Option Addr
  cW:Nat
  E:Option Addr
  cE:Nat
def flL (f:Fl)(a:Fa):List Value:=[.int .i64 (f.size:Int),.slice a.D f.data.length a.cD,.slice a.W f.wear.length a.cW,.int .i64 f.limit,.slice a.E f.dead.length a.cE]
def flV (f:Fl)(a:Fa):Value:=.agg (List.toArray (flL f a))
structure Fl.Ok (f:Fl):Prop where
  s1:1≤f.size
  s2:f.size≤4096
  n1:1≤f.data.length
  n2:f.data.length≤64
  wl:f.wear.length=f.data.length
  dl:f.dead.length=f.data.length
  rows:∀ i,i<f.data.length→(f.data.getD i []).length=f.size
  l1:1≤f.limit
  l2:f.limit≤100000
  wear:∀ i,i<f.data.length→0≤f.wear.getD i 0∧f.wear.getD i 0≤f.limit
structure Fl.Sm (f:Fl):Prop where
  n:f.data.length≤1000000
  w:f.wear.length≤1000000
  d:f.dead.length≤1000000
  r:∀ i,(f.data.getD i []).length≤1000000
theorem cM {α:Type}{l:List α}{i:Nat}{d:α}(h:l.length≤i):l.getD i d=d:=by simp [h]
theorem Fl.Ok.sm {f:Fl}(h:f.Ok):f.Sm:=by
 obtain ⟨_,_,_,_,_,_,hr,_,_,_⟩:=h;refine ⟨by omega,by omega,by omega,fun i=>?_⟩
 by_cases hi:i<f.data.length
 ·rw [hr i hi]
  omega
 rw [cM oe];exact Zm 0xc1e
theorem aF {α:Type}{l m:List α}{d:α}(h:l.length=m.length)(he:∀ i,i<l.length→l.getD i d=m.getD i d):l=m:=by
 refine List.ext_getElem h fun i h1 h2=>?_
 have:=he i h1
 simpa [List.getD_eq_getElem?_getD,h1,h2] using this
theorem ru {hs:List Hd}{ls:List (List UInt8)}(h:hs.length=ls.length)(g:Hd)(l:List UInt8):aB hs (B8 ls)++[.slice g.1 l.length g.2]=aB (hs++[g]) (B8 (ls++[l])):=by
 have:=rq (hs:=hs) (vss:=B8 ls) obL g (U8 l);rw [aH] at this;rw [this,← Mv]
 rfl
theorem C0 (ls:List (List UInt8))(l:List UInt8):B8 ls++[U8 l]=B8 (ls++[l]):=by simp [B8]
theorem Mt (m:Nat)(x:Bool):List.replicate m (Value.bool x)=Bs (List.replicate m x):=by simp [Bs]
theorem ay {e sz n n' c:Nat}{A:Option Addr}{xs ys:List Value}(hn:n=n')(h:xs=ys):Own e sz A n c xs=Own e sz A n' c ys:=by rw [h,hn]
theorem bO {α:Type}(m i:Nat)(x d:α)(h:i<m):(List.replicate m x).getD i d=x:=by simp [h]
structure Fo where
  kind:Int
  sec:Int
  at_:Int
  data:List UInt8
  deriving DecidableEq
def ao (f:Fl)(x:Fo):Int:=
  if x.kind≠1∧x.kind≠2 then 1
  else if ¬(0≤x.sec∧x.sec≤(f.data.length:Int)-1)∨x.kind=2∧(¬(0≤x.at_∧x.at_≤(f.size:Int))∨(x.data.length:Int)>(f.size:Int)-x.at_) then 170
  else if f.dead.getD x.sec.toNat false=true then 171
  else if x.kind=1∧f.wear.getD x.sec.toNat 0=f.limit then 172 else 0
section
variable {f:Fl}{x:Fo}
theorem wW (h:x.kind≠1∧x.kind≠2):ao f x=1:=by unfold ao;rw [if_pos h]
theorem E9 (h:x.kind=1∨x.kind=2)(h2:¬(0≤x.sec∧x.sec≤(f.data.length:Int)-1)∨x.kind=2∧(¬(0≤x.at_∧x.at_≤(f.size:Int))∨(x.data.length:Int)>(f.size:Int)-x.at_)):ao f x=170:=by
 unfold ao;rw [if_neg oe,if_pos h2]
theorem c8 (h:x.kind=1∨x.kind=2)(h2:0≤x.sec∧x.sec≤(f.data.length:Int)-1∧(x.kind=2→0≤x.at_∧x.at_≤(f.size:Int)∧(x.data.length:Int)≤(f.size:Int)-x.at_))(h3:f.dead.getD x.sec.toNat false=true):ao f x=171:=by
 unfold ao;rw [if_neg oe,if_neg oe,if_pos h3]
theorem pg (_h:x.kind=1∨x.kind=2)(h2:0≤x.sec∧x.sec≤(f.data.length:Int)-1∧(x.kind=2→0≤x.at_∧x.at_≤(f.size:Int)∧(x.data.length:Int)≤(f.size:Int)-x.at_))(h3:f.dead.getD x.sec.toNat false=false)
    (h4:x.kind=1∧f.wear.getD x.sec.toNat 0=f.limit):ao f x=172:=by
 unfold ao;rw [if_neg oe,if_neg oe,if_neg (by rw [h3];simp),if_pos h4]
theorem iw (h:x.kind=1∨x.kind=2)(h2:0≤x.sec∧x.sec≤(f.data.length:Int)-1∧(x.kind=2→0≤x.at_∧x.at_≤(f.size:Int)∧(x.data.length:Int)≤(f.size:Int)-x.at_))(h3:f.dead.getD x.sec.toNat false=false)
    (h4:¬(x.kind=1∧f.wear.getD x.sec.toNat 0=f.limit)):ao f x=0:=by
 unfold ao;rw [if_neg oe,if_neg oe,if_neg (by rw [h3];simp),if_neg h4]
theorem dO (h:ao f x=0):(x.kind=1∨x.kind=2)∧(0≤x.sec∧x.sec≤(f.data.length:Int)-1∧(x.kind=2→0≤x.at_∧x.at_≤(f.size:Int)∧(x.data.length:Int)≤(f.size:Int)-x.at_))∧
    f.dead.getD x.sec.toNat false=false∧¬(x.kind=1∧f.wear.getD x.sec.toNat 0=f.limit):=by
 unfold ao at h
 split at h
 ·cases h
 split at h
 ·cases h
 split at h
 ·cases h
 split at h
 ·cases h
 next h1 h2 h3 h4=>exact ⟨by omega,by omega,by simpa using h3,h4⟩
def w9 (x:Fo)(i:Nat)(o:UInt8):UInt8:=
  if x.kind=1 then 255 else if x.at_≤(i:Int)∧(i:Int)-x.at_<(x.data.length:Int) then o&&&x.data.getD ((i:Int)-x.at_).toNat 0 else o
theorem w8 (h:x.kind=1)(i:Nat)(o:UInt8):w9 x i o=255:=if_pos h
theorem lG {i:Nat}{o:UInt8}(h:x.kind≠1)(hi:x.at_≤(i:Int)∧(i:Int)-x.at_<(x.data.length:Int)):w9 x i o=o&&&x.data.getD ((i:Int)-x.at_).toNat 0:=by unfold w9;rw [if_neg h,if_pos hi]
theorem iA {i:Nat}{o:UInt8}(h:x.kind≠1)(hi:¬(x.at_≤(i:Int)∧(i:Int)-x.at_<(x.data.length:Int))):w9 x i o=o:=by unfold w9;rw [if_neg h,if_neg hi]
def kS (o w m:UInt8):UInt8:=o&&& ~~~m|||w&&&m
def ry (f:Fl)(x:Fo)(mk:Nat→UInt8)(i:Nat):UInt8:=kS ((f.data.getD x.sec.toNat []).getD i 0) (w9 x i ((f.data.getD x.sec.toNat []).getD i 0)) (mk i)
def ji (f:Fl)(x:Fo)(mk:Nat→UInt8):List UInt8:=(List.range f.size).map (ry f x mk)
def dw (f:Fl)(x:Fo)(mk:Nat→UInt8):Fl:=
  { f with data:=f.data.set x.sec.toNat (ji f x mk),wear:=if x.kind=1 then f.wear.set x.sec.toNat (f.wear.getD x.sec.toNat 0+1) else f.wear }
def flz:Fl:=⟨0,[],[],0,[]⟩
def az:Fa:=⟨none,0,[],none,0,none,0⟩
def aS (f:Fl)(x:Fo)(mk:Nat→UInt8):Fl:=if ao f x=0 then dw f x mk else flz
end
def nH {α:Type}(g:Nat→α)(l:List α)(k:Nat):List α:=(List.range k).map g++l.drop k
theorem rN {α:Type}(g:Nat→α)(l:List α):nH g l 0=l:=by simp [nH]
theorem gX {α:Type}{g:Nat→α}{l:List α}{k:Nat}(h:k≤l.length):(nH g l k).length=l.length:=by simp [nH];omega
theorem Ee {α:Type}{g:Nat→α}{l:List α}{k:Nat}(_h:k<l.length)(d:α):(nH g l k).getD k d=l.getD k d:=by
 unfold nH;rw [List.getD_eq_getElem?_getD,List.getElem?_append_right Ob]
 simp
theorem vG {α:Type}{g:Nat→α}{l:List α}{k:Nat}(h:k<l.length):(nH g l k).set k (g k)=nH g l (k+1):=by
 unfold nH;rw [List.set_append_right _ _ Ob,List.range_succ,List.map_append,List.append_assoc]
 congr 1;have:l.drop k=l[k]::l.drop (k+1):=List.drop_eq_getElem_cons h;rw [List.length_map,List.length_range,Nat.sub_self,this]
 rfl
theorem vH {α:Type}{g:Nat→α}{l:List α}{k:Nat}(hk:k≤l.length)(d:α)(h:∀ i,k≤i→i<l.length→g i=l.getD i d):nH g l k=(List.range l.length).map g:=by
 refine aF (d:=d) (by rw [gX hk];simp) fun i hi=>?_
 rw [gX hk] at hi;have e2:((List.range l.length).map g).getD i d=g i:=by simp [List.getD_eq_getElem?_getD,hi]
 rw [e2]
 unfold nH
 by_cases hik:i<k
 ·rw [List.getD_eq_getElem?_getD,List.getElem?_append_left (by simpa using hik)]
  simp [hik]
 rw [h i oe hi,List.getD_eq_getElem?_getD,List.getElem?_append_right OO]
 simp only [List.length_map,List.length_range,List.getElem?_drop];rw [show k+(i-k)=i from by omega,List.getD_eq_getElem?_getD]
theorem AW (o w:UInt8):kS o w 0=o:=by
 apply UInt8.eq_of_toBitVec_eq
 simp [kS]
theorem fv (o w:UInt8):kS o w 255=w:=by
 apply UInt8.eq_of_toBitVec_eq
 unfold kS
 ext i hi;have h255:((255:UInt8).toBitVec).getLsbD i=true:=by
  have:∀ j,j<8→((255:UInt8).toBitVec).getLsbD j=true:=ob
  exact this i hi
 simp [BitVec.getLsbD_eq_getElem hi] at h255 ⊢
 exact fun _=>h255
theorem Eu (o w m:UInt8):o^^^((o^^^w)&&&m)=kS o w m:=by
 apply UInt8.eq_of_toBitVec_eq
 unfold kS
 ext i hi
 simp
 cases o.toBitVec[i]<;>cases w.toBitVec[i]<;>cases m.toBitVec[i]<;>rfl
theorem aT {α:Type}{l:List α}{i:Nat}(h:i<l.length)(x d:α):(l.set i x).getD i d=x:=Qy
theorem getD_set_ne {α:Type}{l:List α}{i j:Nat}(h:i≠j)(x d:α):(l.set i x).getD j d=l.getD j d:=Qy
theorem Dw {α:Type}{l:List α}{i:Nat}(d:α):l.set i (l.getD i d)=l:=by
 refine List.ext_getElem Ob fun j h1 h2=>?_
 rw [List.getElem_set]
 split
 ·next h=>subst h;simp [List.getD_eq_getElem?_getD,h2]
 rfl
theorem ai {α:Type}{g:Nat→α}{n i:Nat}(h:i<n)(d:α):((List.range n).map g).getD i d=g i:=Qy
def gj (f:Fl)(x:Fo):List UInt8:=(List.range f.size).map fun i=>w9 x i ((f.data.getD x.sec.toNat []).getD i 0)
theorem jd (f:Fl)(x:Fo):(gj f x).length=f.size:=by simp [gj]
theorem ya {f:Fl}{x:Fo}{k:Nat}(h:k<f.size):(U8 (gj f x))[k]?=some (.int .u8 ((w9 x k ((f.data.getD x.sec.toNat []).getD k 0)).toNat:Int)):=by
 rw [bE (by rw [jd];exact h)]
 unfold gj;rw [ai h]
theorem Fs {f:Fl}{x:Fo}(h:x.kind=1):gj f x=List.replicate f.size 255:=by
 unfold gj
 simp only [w8 h];rw [List.map_const',List.length_range]
def yb (row data:List UInt8)(p k:Nat):List UInt8:=(List.range row.length).map fun i=>if p≤i∧i<p+k then row.getD i 0&&&data.getD (i-p) 0 else row.getD i 0
theorem cw (row data:List UInt8)(p k:Nat):(yb row data p k).length=row.length:=by simp [yb]
theorem Ct (row data:List UInt8)(p:Nat):yb row data p 0=row:=by
 refine aF (d:=0) (cw _ _ _ _) fun i hi=>?_
 rw [cw] at hi
 unfold yb;rw [ai hi,if_neg oe]
theorem Fu {row data:List UInt8}{p k:Nat}(h:p+k<row.length):(yb row data p k).getD (p+k) 0=row.getD (p+k) 0:=by
 unfold yb;rw [ai h,if_neg oe]
theorem Ft {row data:List UInt8}{p k:Nat}(h:p+k<row.length):(yb row data p k).set (p+k) (row.getD (p+k) 0&&&data.getD k 0)=yb row data p (k+1):=by
 refine aF (d:=0) (by rw [List.length_set,cw,cw]) fun i hi=>?_
 rw [List.length_set,cw] at hi
 by_cases hik:p+k=i
 ·subst hik;rw [aT (by rw [cw];exact h)]
  unfold yb;rw [ai h,if_pos oe,show p+k-p=k from by omega]
 rw [getD_set_ne hik]
 unfold yb;rw [ai hi,ai hi]
 by_cases hc:p≤i∧i<p+k
 ·rw [if_pos hc,if_pos oe]
 rw [if_neg hc,if_neg oe]
theorem Fv {f:Fl}{x:Fo}(hk:x.kind≠1)(h0:0≤x.at_)(hl:(f.data.getD x.sec.toNat []).length=f.size):yb (f.data.getD x.sec.toNat []) x.data x.at_.toNat x.data.length=gj f x:=by
 refine aF (d:=0) (by rw [cw,jd,hl]) fun i hi=>?_
 rw [cw] at hi
 unfold yb gj;rw [ai hi,ai oe]
 by_cases hc:x.at_.toNat≤i∧i<x.at_.toNat+x.data.length
 ·rw [if_pos hc,lG hk oe,show ((i:Int)-x.at_).toNat=i-x.at_.toNat from by omega]
 rw [if_neg hc,iA hk oe]
theorem cu (f:Fl)(x:Fo)(mk:Nat→UInt8):(ji f x mk).length=f.size:=by simp [ji]
theorem zD {hs:List Hd}{ls:List (List UInt8)}{s:Nat}{l:List UInt8}(h:hs.length=ls.length)(hs':s<ls.length)(hl:l.length=(ls.getD s []).length):aB hs (B8 (ls.set s l))=aB hs (B8 ls):=by
 refine List.ext_getElem? fun i=>?_
 by_cases hi:i<ls.length
 ·rw [bm (by rw [List.length_set];exact h) (by rw [List.length_set];exact hi),bm h hi]
  by_cases his:s=i
  ·subst his;rw [aT hs',hl]
  rw [getD_set_ne his]
 rw [List.getElem?_eq_none (by rw [bt (by rw [b6,List.length_set];exact h),b6,List.length_set];omega),List.getElem?_eq_none (by rw [bt obL,b6];omega)]
theorem bz {f:Fl}{x:Fo}(hE:ao f x=0)(mk:Nat→UInt8):aS f x mk=dw f x mk:=if_pos hE
theorem fW {f:Fl}{x:Fo}(hE:ao f x≠0)(mk:Nat→UInt8):aS f x mk=flz:=if_neg hE
theorem xD {f:Fl}{x:Fo}{mk mk':Nat→UInt8}(h:∀ i,i<f.size→mk i=mk' i):ji f x mk=ji f x mk':=by
 unfold ji;refine List.map_congr_left fun i hi=>?_
 unfold ry;rw [h i obU]
theorem fV {f:Fl}{x:Fo}{mk mk':Nat→UInt8}(h:∀ i,i<f.size→mk i=mk' i):aS f x mk=aS f x mk':=by
 unfold aS dw;rw [xD h]
theorem ba {f:Fl}(x:Fo)(mk:Nat→UInt8):(dw f x mk).data.length=f.data.length:=List.length_set
theorem lr {f:Fl}(x:Fo)(mk:Nat→UInt8):(dw f x mk).wear.length=f.wear.length:=by
 unfold dw
 dsimp only
 split<;>simp
theorem BW {f:Fl}{x:Fo}(ok:f.Ok)(hE:ao f x=0)(mk:Nat→UInt8):(dw f x mk).Ok:=by
 apply Y 0x9c1f;intro q1 q2 q3 q4 q5 q6;obtain ⟨o1,o2,o3,o4,o5,o6,o7,o8,o9,o10⟩:=ok;refine ⟨o1,o2,by rw [ba];exact o3,by rw [ba];exact o4,by rw [ba,lr];exact o5,by rw [ba];exact o6,fun i hi=>?_,o8,o9,fun i hi=>?_⟩
 ·rw [ba] at hi
  show ((f.data.set x.sec.toNat (ji f x mk)).getD i []).length=f.size
  by_cases his:x.sec.toNat=i
  ·subst his;rw [aT hi,cu]
  rw [getD_set_ne his]
  exact o7 i hi
 rw [ba] at hi
 show 0≤(if x.kind=1 then f.wear.set x.sec.toNat (f.wear.getD x.sec.toNat 0+1) else f.wear).getD i 0∧(if x.kind=1 then f.wear.set x.sec.toNat (f.wear.getD x.sec.toNat 0+1) else f.wear).getD i 0≤f.limit
 split
 ·next hk=>
  by_cases his:x.sec.toNat=i
  ·subst his;rw [aT oe];have:=o10 _ hi;have:f.wear.getD x.sec.toNat 0≠f.limit:=fun h=>q6 ⟨hk,h⟩
   omega
  rw [getD_set_ne his]
  exact o10 i hi
 exact o10 i hi
theorem kL {g:Nat→UInt8}{l:List UInt8}{k:Nat}(h:k<l.length):(U8 (nH g l k))[k]?=some (.int .u8 ((l.getD k 0).toNat:Int)):=by
 rw [bE (by rw [gX oe];exact h),Ee h]
theorem zE {hs:List Hd}{ls:List (List UInt8)}{s:Nat}{A:Option Addr}{c:Nat}{l:List UInt8}:(aB hs (B8 ls)).set s (.slice A l.length c)=aB (hs.set s (A,c)) (B8 (ls.set s l)):=by
 rw [← xn];refine List.ext_getElem? fun i=>?_
 unfold aB;rw [List.getElem?_set,List.getElem?_zipWith,List.getElem?_zipWith,List.getElem?_set,List.getElem?_set]
 by_cases hi:s=i
 ·subst hi
  simp only [if_true,List.length_zipWith,Nat.lt_min]
  by_cases h1:s<hs.length
  ·by_cases h2:s<(B8 ls).length
   ·simp [h1,h2,aH]
   simp [h1,h2]
  simp [h1]
 simp [hi]
structure Nx where
  x:Fo
  done:Bool
  e:Int
  deriving DecidableEq
def fo0:Fo:=⟨0,0,0,[]⟩
def gq (row want:List UInt8)(k:Nat):Bool:=(List.range k).all fun i=>want.getD i 0&&& ~~~(row.getD i 0)==0
theorem pQ (row want:List UInt8)(k:Nat):gq row want (k+1)=(gq row want k&&(want.getD k 0&&& ~~~(row.getD k 0)==0)):=by
 unfold gq;apply Y 0xba0f
 simp
theorem yH {row want:List UInt8}{k n:Nat}(hk:k<n)(h:want.getD k 0&&& ~~~(row.getD k 0)≠0):gq row want n=false:=by
 unfold gq
 exact List.all_eq_false.2 ⟨k,by simpa using hk,by simpa using h⟩
theorem dQ (r w:UInt8):r&&&w=w↔w&&& ~~~r=0:=by
 rw [← UInt8.toBitVec_inj,← UInt8.toBitVec_inj]
 constructor
 ·intro h
  ext i hi;have h1:=congrArg (fun b=>b.getLsbD i) h
  simp [BitVec.getLsbD_eq_getElem hi] at h1 ⊢
  cases hr:r.toBitVec[i]<;>cases hw:w.toBitVec[i]<;>simp_all
 intro h
 ext i hi;have h1:=congrArg (fun b=>b.getLsbD i) h
 simp [BitVec.getLsbD_eq_getElem hi] at h1 ⊢
 cases hr:r.toBitVec[i]<;>cases hw:w.toBitVec[i]<;>simp_all
def bQ (f:Fl)(sec:Int)(want:List UInt8):Fo:=if gq (f.data.getD sec.toNat []) want f.size=true then ⟨2,sec,0,want⟩ else ⟨1,sec,0,[]⟩
def aM (f:Fl)(sec:Int)(want:List UInt8):Nx:=
  if ¬(0≤sec∧sec≤(f.data.length:Int)-1)∨want.length≠f.size then ⟨fo0,false,170⟩
  else if f.data.getD sec.toNat []=want then ⟨fo0,true,0⟩
  else if ao f (bQ f sec want)≠0 then ⟨fo0,false,ao f (bQ f sec want)⟩ else ⟨bQ f sec want,false,0⟩
section
variable {f:Fl}{sec:Int}{want:List UInt8}
theorem gg (h:¬(0≤sec∧sec≤(f.data.length:Int)-1)∨want.length≠f.size):aM f sec want=⟨fo0,false,170⟩:=if_pos h
theorem mh (h:¬(¬(0≤sec∧sec≤(f.data.length:Int)-1)∨want.length≠f.size))(h2:f.data.getD sec.toNat []=want):aM f sec want=⟨fo0,true,0⟩:=by unfold aM;rw [if_neg h,if_pos h2]
theorem kg {x:Fo}(h:¬(¬(0≤sec∧sec≤(f.data.length:Int)-1)∨want.length≠f.size))(h2:f.data.getD sec.toNat []≠want)(hx:bQ f sec want=x)(h3:ao f x≠0):aM f sec want=⟨fo0,false,ao f x⟩:=by
 subst hx
 unfold aM;exact Zm 0x5b0f
theorem gR {x:Fo}(h:¬(¬(0≤sec∧sec≤(f.data.length:Int)-1)∨want.length≠f.size))(h2:f.data.getD sec.toNat []≠want)(hx:bQ f sec want=x)(h3:¬ ao f x≠0):aM f sec want=⟨x,false,0⟩:=by
 subst hx
 unfold aM;rw [if_neg h,if_neg h2,if_neg h3]
theorem fq (h:gq (f.data.getD sec.toNat []) want f.size=true):bQ f sec want=⟨2,sec,0,want⟩:=if_pos h
theorem fo (h:gq (f.data.getD sec.toNat []) want f.size=false):bQ f sec want=⟨1,sec,0,[]⟩:=if_neg Qk
end
def C5 (sec:Int)(want:List UInt8)(W:Option Addr)(wc:Nat)(good:Bool)(x:Fo)(XA:Option Addr)(xc:Nat):Prop:=
  (good=true∧x=⟨2,sec,0,want⟩∧XA=W∧xc=wc)∨(good=false∧x=⟨1,sec,0,[]⟩∧XA=none∧xc=0)
theorem C5.next {sec:Int}{want:List UInt8}{W:Option Addr}{wc:Nat}{g:Bool}{x:Fo}{XA:Option Addr}{xc:Nat}(h:C5 sec want W wc g x XA xc)(b:Bool)(hb:b=true):C5 sec want W wc (g&&b) x XA xc:=by
 subst hb;rw [Bool.and_true]
 exact h
theorem C5.has {sec:Int}{want:List UInt8}{W:Option Addr}{wc:Nat}{g:Bool}{x:Fo}{XA:Option Addr}{xc:Nat}{R H:List Pr}(h:C5 sec want W wc g x XA xc)(hw:Has R H (Rd W (U8 want))):Has R H (Rd XA (U8 x.data)):=by
 rcases h with ⟨_,rfl,rfl,_⟩|⟨_,rfl,rfl,_⟩
 ·exact hw
 exact Has.nil
theorem C5.len {sec:Int}{want:List UInt8}{W:Option Addr}{wc:Nat}{g:Bool}{x:Fo}{XA:Option Addr}{xc:Nat}(h:C5 sec want W wc g x XA xc):x.data.length≤want.length:=by
 rcases h with ⟨_,rfl,rfl,_⟩|⟨_,rfl,rfl,_⟩<;>simp
theorem C5.eq {f:Fl}{sec:Int}{want:List UInt8}{W:Option Addr}{wc:Nat}{x:Fo}{XA:Option Addr}{xc:Nat}(h:C5 sec want W wc (gq (f.data.getD sec.toNat []) want f.size) x XA xc):bQ f sec want=x:=by
 rcases h with ⟨hg,rfl,_⟩|⟨hg,rfl,_⟩
 ·exact fq hg
 exact fo hg
section
variable {X:Cx}{β:Base}{Γ:Env}{R H:List Pr}
theorem Ev.shr {t ty:Nat}{x y:Operand}{k yk:IntKind}{a b:Int}(hx:ev Γ x=some (.int k a))(hy:ev Γ y=some (.int yk b))(h0:0≤b):Ev X β Γ R H (.binOp .shr t x y ty) (.int k (a.fdiv (2^min b.toNat k.bits))):=by
 intro ρ w hρ hw o ho;have hg:(eqGuard .shr t x y (.int k a) (.int yk b)).run X.P w=.ok () w:=qT;have hb:¬ b<0:=oe
 simp [execOp,ho,hρ _ _ hx,hρ _ _ hy,hg,binOp_shr,Op.shift,hb]
end
theorem Has.take {R H:List Pr}{A:Option Addr}{xs:List Value}(h:Has R H (Rd A xs))(m:Nat):Has R H (Rd A (xs.take m)):=by
 refine ⟨fun β w hw j u hu=>h.1 β w hw j u ?_,fun k hk=>h.2 k ⟨fun h0=>hk.1 (by rw [h0,List.take_nil]),hk.2⟩⟩;rw [List.getElem?_take] at hu
 split at hu
 ·exact hu
 cases hu
theorem cj (l:List UInt8)(m:Nat):(U8 l).take m=U8 (l.take m):=by simp [U8,List.map_take]
theorem uO {a b:UInt8}(h:∀ i,(hi:i<8)→a.toBitVec[i]=b.toBitVec[i]):a=b:=by
 apply UInt8.eq_of_toBitVec_eq
 ext i hi
 exact h i hi
theorem Cy (a:UInt8):a&&&0=0:=by
 apply UInt8.eq_of_toBitVec_eq
 ext i hi
 simp
structure GoodOp (f:Fl)(x:Fo):Prop where
  k:x.kind=1∨x.kind=2
  s:0≤x.sec∧x.sec≤(f.data.length:Int)-1
  p:x.kind=2→0≤x.at_∧x.at_≤(f.size:Int)∧(x.data.length:Int)≤(f.size:Int)-x.at_
section
variable {f:Fl}{x:Fo}{mk:Nat→UInt8}
theorem GoodOp.lt (g:GoodOp f x):x.sec.toNat<f.data.length:=by have:=g.s;omega
theorem ga (h:ao f x=0):GoodOp f x:=⟨(dO h).1,⟨(dO h).2.1.1,(dO h).2.1.2.1⟩,(dO h).2.1.2.2⟩
theorem n6 (h:x.sec.toNat<f.data.length):(dw f x mk).data.getD x.sec.toNat []=ji f x mk:=aT h _ _
theorem xZ {i:Nat}(h:x.sec.toNat≠i):(dw f x mk).data.getD i []=f.data.getD i []:=getD_set_ne h _ _
theorem gW {i:Nat}(h:i<f.size)(d:UInt8):(ji f x mk).getD i d=ry f x mk i:=ai h d
theorem xY (hk:x.kind=1)(h:x.sec.toNat<f.wear.length):(dw f x mk).wear.getD x.sec.toNat 0=f.wear.getD x.sec.toNat 0+1:=by
 unfold dw
 dsimp only;rw [if_pos hk,aT h]
theorem xX (hk:x.kind≠1):(dw f x mk).wear=f.wear:=by
 unfold dw
 dsimp only;rw [if_neg hk]
theorem xW {i:Nat}(h:x.sec.toNat≠i):(dw f x mk).wear.getD i 0=f.wear.getD i 0:=by
 unfold dw
 dsimp only
 split
 ·exact getD_set_ne h _ _
 rfl
theorem DS {i:Nat}(h:mk i=255):ry f x mk i=w9 x i ((f.data.getD x.sec.toNat []).getD i 0):=by
 unfold ry;rw [h,fv]
theorem F1 (f:Fl)(x:Fo)(i:Nat):ry f x (fun _=>255) i=w9 x i ((f.data.getD x.sec.toNat []).getD i 0):=DS rfl
structure Kept (f g:Fl):Prop where
  ok:g.Ok
  n:g.data.length=f.data.length
  s:g.size=f.size
  l:g.limit=f.limit
  w:g.wear.length=f.data.length
  e:g.dead.length=f.data.length
  d:g.dead=f.dead
  r:∀ i,i<f.data.length→(g.data.getD i []).length=f.size
theorem eB (ok:f.Ok)(hE:ao f x=0)(mk:Nat→UInt8):Kept f (aS f x mk):=by
 rw [bz hE];have h:=BW ok hE mk;exact ⟨h,ba _ _,rfl,rfl,by rw [h.wl,ba],by rw [h.dl,ba],rfl,fun i hi=>h.rows i (by rw [ba];exact hi)⟩
theorem mK (hE:ao f x=0){i:Nat}(h:x.sec.toNat≠i):(aS f x mk).data.getD i []=f.data.getD i []:=by rw [bz hE];exact xZ h
theorem mJ (ok:f.Ok)(hE:ao f x=0){k:Nat}(hk:x.kind=1)(h:(k:Int)=x.sec):f.wear.getD k 0+1=(aS f x mk).wear.getD k 0:=by
 obtain rfl:x.sec.toNat=k:=oe;rw [bz hE,xY hk (by rw [ok.wl];exact (ga hE).lt)]
theorem iW (hE:ao f x=0){k:Nat}(h:¬(x.kind=1∧(k:Int)=x.sec)):f.wear.getD k 0=(aS f x mk).wear.getD k 0:=by
 rw [bz hE]
 by_cases hk:x.kind=1
 ·have:=(ga hE).s;rw [xW (fun e=>h ⟨hk,by omega⟩)]
 rw [xX hk]
end
def aW (l:List UInt8):List UInt8:=l.flatMap fun b=>[b,~~~b]
def cz (n w:Nat):List UInt8:=(List.range w).map fun i=>UInt8.ofNat (n/256^(w-1-i))
def pN (l:List UInt8):Nat:=l.foldl (fun n b=>256*n+b.toNat) 0
def dp (l:List UInt8)(i:Nat):Bool:=l.getD (2*i) 0== ~~~(l.getD (2*i+1) 0)
def aQ (l:List UInt8)(k:Nat):Bool:=(List.range k).all (dp l)
def cr (l:List UInt8)(k:Nat):List UInt8:=(List.range k).map fun i=>l.getD (2*i) 0
def Mz:List Nat:=[0,1,3,4,8,9,10,11,13]
def wds:List Nat:=[1,2,1,4,1,1,1,2,2]
def wL (b:List UInt8):List Int:=(Mz.zip wds).map fun p=>(pN ((b.drop p.1).take p.2):Int)
def cm (slot:List UInt8):Option (List Int):=if aQ slot 15=true then some (wL (cr slot 15)) else none
def EP (x:Int)(w:Nat):Bool:=decide (0≤x∧x<(256^w:Nat))
def eK (s:List Int)(k:Nat):Bool:=(List.range k).all fun i=>EP (s.getD i 0) (wds.getD i 0)
def aN (s:List Int):Bool:=eK s 9
def bh (s:List Int)(k:Nat):List UInt8:=(List.range k).flatMap fun i=>cz (s.getD i 0).toNat (wds.getD i 0)
def ak (s:List Int):List UInt8:=if aN s=true then aW (bh s 9) else []
theorem dg (l:List UInt8):(aW l).length=2*l.length:=by
 induction l with
 |nil=>rfl
 |cons b l ih=>
  show ([b,~~~b]++aW l).length=_;rw [List.length_append,ih]
  simp
  omega
theorem lz (l m:List UInt8):aW (l++m)=aW l++aW m:=by simp [aW]
theorem sW (b:UInt8):aW [b]=[b,~~~b]:=rfl
theorem cJ (n w:Nat):(cz n w).length=w:=by simp [cz]
theorem En {n w i:Nat}(h:i<w):(cz n w).getD i 0=UInt8.ofNat (n/256^(w-1-i)):=ai h 0
theorem dN (l:List UInt8)(k:Nat):aQ l (k+1)=(aQ l k&&dp l k):=by
 unfold aQ;apply Y 0xba0f
 simp
theorem uG (l:List UInt8):aQ l 0=true:=rfl
theorem Cb {l:List UInt8}{k n:Nat}(hk:k<n)(h:dp l k=false):aQ l n=false:=by
 unfold aQ;rw [List.all_eq_false];exact ⟨k,List.mem_range.2 hk,by simp [h]⟩
theorem iZ {l:List UInt8}{k n:Nat}(hk:k<n)(h:aQ l n=true):dp l k=true:=by
 unfold aQ at h;rw [List.all_eq_true] at h
 exact h k (List.mem_range.2 hk)
theorem Cd {l:List UInt8}{k n:Nat}(hk:k≤n)(h:aQ l n=true):aQ l k=true:=by
 unfold aQ at*;rw [List.all_eq_true] at*
 exact fun i hi=>h i (List.mem_range.2 (by have:=List.mem_range.1 hi;omega))
theorem x3 {l:List UInt8}{k n:Nat}(hk:k≤n)(h:aQ l k=false):aQ l n=false:=by
 cases hn:aQ l n
 ·rfl
 rw [Cd hk hn] at h
 cases h
theorem cn (l:List UInt8)(k:Nat):(cr l k).length=k:=by simp [cr]
theorem xS (l:List UInt8)(k:Nat):cr l (k+1)=cr l k++[l.getD (2*k) 0]:=by simp [cr,List.range_succ]
theorem fz {l:List UInt8}{k i:Nat}(h:i<k):(cr l k).getD i 0=l.getD (2*i) 0:=ai h 0
theorem pM (l:List UInt8)(b:UInt8):pN (l++[b])=256*pN l+b.toNat:=by simp [pN]
theorem wD:∀ (l:List UInt8) (a:Nat),l.foldl (fun n b=>256*n+b.toNat) a<(a+1)*256^l.length
  |[],a=>by simp
  |b::l,a=>by
    have h:=wD l (256*a+b.toNat)
    rw [List.foldl_cons,List.length_cons,Nat.pow_succ']
    have hb:=UInt8.toNat_lt b
    refine Nat.lt_of_lt_of_le h ?_
    rw [← Nat.mul_assoc]
    exact Nat.mul_le_mul_right _ oe
theorem tC (l:List UInt8):pN l<256^l.length:=by have:=wD l 0;simpa [pN] using this
theorem bn {α:Type}(l:List α)(k i:Nat)(d:α):(l.drop k).getD i d=l.getD (k+i) d:=by simp [List.getD_eq_getElem?_getD]
theorem tU (l:List UInt8)(k i:Nat):dp (l.drop (2*k)) i=dp l (k+i):=by
 unfold dp;rw [bn,bn,show 2*k+2*i=2*(k+i) by omega,show 2*k+(2*i+1)=2*(k+i)+1 by omega]
theorem lx {l:List UInt8}{k:Nat}(h:aQ l k=true)(w:Nat):aQ (l.drop (2*k)) w=aQ l (k+w):=by
 induction w with
 |zero=>rw [uG,Nat.add_zero,h]
 |succ w ih=>rw [dN,ih,← Nat.add_assoc,dN,tU]
theorem bu {α:Type}{l:List α}{k i:Nat}(h:i<k)(d:α):(l.take k).getD i d=l.getD i d:=Qy
theorem xT {l:List UInt8}{k w n:Nat}(h:k+w≤n):cr (l.drop (2*k)) w=((cr l n).drop k).take w:=by
 refine aF (d:=0) (by rw [cn,List.length_take,List.length_drop,cn];omega) fun i hi=>?_
 rw [cn] at hi;rw [fz hi,bn,bu hi,bn,fz oe,show 2*k+2*i=2*(k+i) by omega]
theorem tT {l:List UInt8}{i n:Nat}(h:2*i+1<n):dp (l.take n) i=dp l i:=by
 unfold dp;rw [bu oe,bu h]
theorem gC {l:List UInt8}{k n:Nat}(h:2*k≤n):aQ (l.take n) k=aQ l k:=by
 induction k with
 |zero=>rfl
 |succ k ih=>rw [dN,dN,ih oe,tT oe]
theorem mH {l:List UInt8}{k n:Nat}(h:2*k≤n):cr (l.take n) k=cr l k:=by
 refine aF (d:=0) (by rw [cn,cn]) fun i hi=>?_
 rw [cn] at hi;rw [fz hi,fz hi,bu oe]
theorem rz (s:List Int)(k:Nat):eK s (k+1)=(eK s k&&EP (s.getD k 0) (wds.getD k 0)):=by
 unfold eK;apply Y 0xba0f
 simp
theorem xG {s:List Int}{k:Nat}(hk:k<9)(h:EP (s.getD k 0) (wds.getD k 0)=false):aN s=false:=by
 unfold aN eK;rw [List.all_eq_false];exact ⟨k,List.mem_range.2 hk,by simp only [h,Bool.false_eq_true,not_false_eq_true]⟩
theorem bI {s:List Int}(h:aN s=true){k:Nat}(hk:k<9):0≤s.getD k 0∧s.getD k 0<(256^wds.getD k 0:Nat):=by
 unfold aN eK at h;rw [List.all_eq_true] at h;have:=h k (List.mem_range.2 hk)
 unfold EP at this
 exact of_decide_eq_true this
theorem dY (s:List Int)(k:Nat):bh s (k+1)=bh s k++cz (s.getD k 0).toNat (wds.getD k 0):=by simp [bh,List.range_succ]
theorem x7 (s:List Int){k:Nat}(h:k≤9):(bh s k).length≤15:=by
 apply Y 0x350f;intro e
 match k,h with
 |0,_=>exact Nat.zero_le _
 |1,_|2,_|3,_|4,_|5,_|6,_|7,_|8,_|9,_=>
  apply Y 0xe51f;rw [show (bh s 0).length=0 from rfl]
  decide
theorem dZ (s:List Int):(bh s 9).length=15:=by
 apply Y 0x350f;intro e;apply Y 0xe51f
 rfl
theorem dG {s:List Int}(h:aN s=true):ak s=aW (bh s 9):=if_pos h
theorem gV {s:List Int}(h:aN s=false):ak s=[]:=if_neg Qk
theorem cB {s:List Int}(h:aN s=true):(ak s).length=30:=by rw [dG h,dg,dZ]
theorem vj (s:List Int):(ak s).length=30∨ak s=[]:=by
 cases h:aN s
 ·exact .inr (gV h)
 exact .inl (cB h)
theorem ij (b:List UInt8):(wL b).length=9:=by simp [wL,Mz,wds]
structure Lg where
  sec:Int
  oth:Int
  gen:Int
  s:List Int
  found:Bool
  free:Nat
  torn:Nat
def lg0:Lg:=⟨0,0,0,List.replicate 9 0,false,0,0⟩
def aX (row:List UInt8)(i:Nat):List UInt8:=(row.drop (8+30*i)).take 30
def bZ (l:List UInt8):Bool:=l.all (· ==255)
def stepL (row:List UInt8)(x:Lg)(i:Nat):Lg:=
  if bZ (aX row i)=true then x
  else match cm (aX row i) with
    |some s=>{ x with free:=i+1,s:=s,found:=true }
    |none=>{ x with free:=i+1,torn:=x.torn+1 }
def bN (row:List UInt8)(x:Lg)(k:Nat):Lg:=(List.range k).foldl (stepL row) x
def l4 (row:List UInt8):Int:=if aQ row 4=true then (pN (cr row 4):Int) else -1
def bC (f:Fl):Nat:=(f.size-8)/30
def av (f:Fl)(s:Int):List UInt8:=f.data.getD s.toNat []
def cN (f:Fl)(a b:Int):Bool:=decide (a≠b∧0≤a∧0≤b∧a<(f.data.length:Int)∧b<(f.data.length:Int)∧38≤f.size)
def ax (f:Fl)(a b:Int):Lg:=if l4 (av f b)>l4 (av f a) then { lg0 with sec:=b,oth:=a,gen:=l4 (av f b) } else { lg0 with sec:=a,oth:=b,gen:=l4 (av f a) }
def aY (f:Fl)(a b:Int):Lg:=if cN f a b=true then (if (ax f a b).gen<0 then ax f a b else bN (av f (ax f a b).sec) (ax f a b) (bC f)) else lg0
def aL (f:Fl)(a b:Int):Lg:=if cN f a b=true then (if (ax f a b).gen<0 then lg0 else bN (av f (ax f a b).sec) (ax f a b) (bC f)) else lg0
theorem eN (f:Fl)(a b:Int):(ax f a b).found=false:=oaW
theorem k8 (f:Fl)(a b:Int):(aL f a b).found=(aY f a b).found:=by
 unfold aL aY
 split
 ·split
  ·rw [eN]
   rfl
  rfl
 rfl
theorem c7 {f:Fl}{a b:Int}(h:(aY f a b).found=true):aL f a b=aY f a b:=by
 unfold aL
 unfold aY at h ⊢
 split
 ·rename_i h1;rw [if_pos h1] at h
  split
  ·rename_i h2;rw [if_pos h2,eN] at h
   cases h
  rfl
 rfl
theorem bp (row:List UInt8)(x:Lg)(k:Nat):bN row x (k+1)=stepL row (bN row x k) k:=by simp [bN,List.range_succ]
theorem xw (row:List UInt8)(x:Lg)(i:Nat):(stepL row x i).sec=x.sec∧(stepL row x i).oth=x.oth∧(stepL row x i).gen=x.gen:=by
 unfold stepL
 split
 ·exact Zm 0xd1e
 split<;>exact ⟨rfl,rfl,rfl⟩
theorem iO (row:List UInt8)(x:Lg)(k:Nat):(bN row x k).sec=x.sec∧(bN row x k).oth=x.oth∧(bN row x k).gen=x.gen:=by
 induction k with
 |zero=>exact ⟨rfl,rfl,rfl⟩
 |succ k ih=>
  rw [bp];obtain ⟨h1,h2,h3⟩:=xw row (bN row x k) k;exact ⟨h1.trans ih.1,h2.trans ih.2.1,h3.trans ih.2.2⟩
def lgP (f:Fl)(a b:Int):Nat:=if cN f a b=true then (if (ax f a b).gen<0 then 0 else bC f) else 0
theorem Ke {f:Fl}{a b:Int}(h:(aY f a b).found=true):lgP f a b=bC f:=by
 unfold lgP
 unfold aY at h
 split
 ·rename_i h1;rw [if_pos h1] at h
  split
  ·rename_i h2;rw [if_pos h2,eN] at h
   cases h
  rfl
 rename_i h1;rw [if_neg h1] at h
 cases h
theorem fT {f:Fl}{a b:Int}(h:cN f a b=true):a≠b∧0≤a∧0≤b∧a<(f.data.length:Int)∧b<(f.data.length:Int)∧38≤f.size:=of_decide_eq_true h
theorem rS {f:Fl}{a b:Int}(h:cN f a b=true):0≤(ax f a b).sec∧(ax f a b).sec<(f.data.length:Int)∧0≤(ax f a b).oth∧(ax f a b).oth<(f.data.length:Int):=by
 have:=fT h
 unfold ax
 split
 ·exact ⟨this.2.2.1,this.2.2.2.2.1,this.2.1,this.2.2.2.1⟩
 exact ⟨this.2.1,this.2.2.2.1,this.2.2.1,this.2.2.2.2.1⟩
def a6 (f:Fl)(a b:Int):List Int×Nat×Int:=if (aY f a b).found=true then ((aY f a b).s,(aY f a b).torn,0) else (List.replicate 9 0,0,200)
theorem rH {f:Fl}{a b:Int}(h:(aY f a b).found=true):a6 f a b=((aY f a b).s,(aY f a b).torn,0):=if_pos h
theorem D6 {f:Fl}{a b:Int}(h:(aY f a b).found=false):a6 f a b=(List.replicate 9 0,0,200):=if_neg Qk
theorem jQ {f:Fl}(h:38≤f.size):0<bC f:=by unfold bC;omega
structure Ly where
  n:Int
  a:Int
  b:Int
  s0:Int
  s1:Int
  T:Option Addr
  tn:Nat
  tc:Nat
  U:Option Addr
  un:Nat
  uc:Nat
  V:Option Addr
  vn:Nat
  vc:Nat
theorem xx {row:List UInt8}{x:Lg}{i:Nat}(h1:x.free≤i)(h2:x.torn≤i):(stepL row x i).free≤i+1∧(stepL row x i).torn≤i+1:=by
 unfold stepL
 split
 ·exact ⟨by omega,by omega⟩
 split<;>exact ⟨by dsimp only;omega,by dsimp only;omega⟩
theorem iP {row:List UInt8}{x:Lg}(h1:x.free=0)(h2:x.torn=0)(k:Nat):(bN row x k).free≤k∧(bN row x k).torn≤k:=by
 induction k with
 |zero=>exact ⟨Nat.le_of_eq h1,Nat.le_of_eq h2⟩
 |succ k ih=>rw [bp];exact xx ih.1 ih.2
theorem fR {f:Fl}{a b:Int}:(ax f a b).free=0∧(ax f a b).torn=0:=by unfold ax;split<;>exact ⟨rfl,rfl⟩
theorem An {f:Fl}(ok:f.Ok):bC f≤137:=by
 have:=ok.s2
 unfold bC
 omega
theorem xy {l:List UInt8}{s:List Int}(h:cm l=some s):s.length=9:=by
 unfold cm at h
 split at h
 ·injection h with h;rw [← h,ij]
 cases h
theorem yV {row:List UInt8}{x:Lg}{i:Nat}(h:x.s.length=9):(stepL row x i).s.length=9:=by
 unfold stepL
 split
 ·exact h
 split
 ·next s hs=>exact xy hs
 exact h
theorem kM (f:Fl)(a b:Int):(ax f a b).s.length=9:=oaW
theorem rf {row:List UInt8}{x:Lg}(h:x.s.length=9)(k:Nat):(bN row x k).s.length=9:=by
 induction k with
 |zero=>exact h
 |succ k ih=>rw [bp];exact yV ih
theorem BM (f:Fl)(a b:Int):(aY f a b).s.length=9:=by
 unfold aY
 split
 ·split
  ·exact kM ..
  exact rf (kM ..) _
 rfl
theorem BK (f:Fl)(a b:Int):(aL f a b).s.length=9:=by
 unfold aL
 split
 ·split
  ·rfl
  exact rf (kM ..) _
 rfl
theorem km {row:List UInt8}{x:Lg}{i:Nat}(h:bZ (aX row i)=true):stepL row x i=x:=if_pos h
theorem kj {row:List UInt8}{x:Lg}{i:Nat}{s:List Int}(h:bZ (aX row i)=false)(hs:cm (aX row i)=some s):stepL row x i={ x with free:=i+1,s:=s,found:=true }:=by
 unfold stepL;rw [if_neg Qk,hs]
theorem tF {row:List UInt8}{x:Lg}{i:Nat}(h:bZ (aX row i)=false)(hs:cm (aX row i)=none):stepL row x i={ x with free:=i+1,torn:=x.torn+1 }:=by
 unfold stepL;rw [if_neg Qk,hs]
theorem lF {l:List UInt8}(h:bZ l=true){i:Nat}(hi:i<l.length):l.getD i 0=255:=by
 unfold bZ at h;rw [List.all_eq_true] at h;have:=h (l.getD i 0) (by rw [List.getD_eq_getElem?_getD,List.getElem?_eq_getElem hi];exact List.getElem_mem hi)
 simpa using this
theorem zU (n:Nat):bZ (List.replicate n 255)=true:=by
 unfold bZ;apply Y 0xa00f;intro x hx;rw [List.eq_of_mem_replicate hx]
 rfl
theorem uE (l:List UInt8):(l.count 255==l.length)=bZ l:=by
 rw [Bool.eq_iff_iff,beq_iff_eq,List.count_eq_length]
 unfold bZ;apply Y 0xa00f;exact ⟨fun h b hb=>by rw [← h b hb];rfl,fun h b hb=>(eq_of_beq (h b hb)).symm⟩
theorem ja {l:List UInt8}(hl:2≤l.length)(h:bZ l=true):cm l=none:=by
 unfold cm;rw [if_neg];intro hc;have:=iZ (show 0<15 by decide) hc
 unfold dp at this;rw [lF h oe,lF h oe] at this
 exact absurd this ob
theorem bX {f:Fl}{row:List UInt8}{i:Nat}(hr:row.length=f.size)(hi:i<bC f):(aX row i).length=30∧8+30*i+30≤f.size:=by
 unfold bC at hi;have h1:30*(i+1)≤f.size-8:=by
  have:=Nat.div_mul_le_self (f.size-8) 30;have h2:(i+1)*30≤(f.size-8)/30*30:=Nat.mul_le_mul_right _ hi
  omega
 unfold aX;rw [List.length_take,List.length_drop,hr]
 omega
def bL (b w:List UInt8)(k:Nat):Bool:=(List.range k).all fun i=>b.getD i 0&&&w.getD i 0==w.getD i 0
def al (n:Nat)(gen:Int)(slot:List UInt8):List UInt8:=
  (if 0<gen then aW (cz gen.toNat 4) else List.replicate 8 255)++slot++List.replicate (n-8-slot.length) 255
def ec (f:Fl)(x:Fo):Nx:=if f.dead.getD x.sec.toNat false=true then ⟨fo0,false,171⟩ else ⟨x,false,0⟩
def dm (there want:List UInt8):Bool:=there.drop 8==want.drop 8&&bL there (want.take 8) 8
def aO (f:Fl)(a b:Int)(s:List Int):Nx:=
  if (aY f a b).found=false∨aN s=false then ⟨fo0,false,200⟩
  else if (aY f a b).s=s then ⟨fo0,true,0⟩
  else if (aY f a b).free<bC f then ec f ⟨2,(aY f a b).sec,8+30*((aY f a b).free:Int),ak s⟩
  else if dm (av f (aY f a b).oth) (al f.size ((aY f a b).gen+1) (ak s))=true then ec f ⟨2,(aY f a b).oth,0,(al f.size ((aY f a b).gen+1) (ak s)).take 8⟩
  else aM f (aY f a b).oth (al f.size 0 (ak s))
def aq (sec:Int)(want:List UInt8):Nat→Fl→Fl×Int
  |0,f=>(f,(aM f sec want).e)
  |k+1,f=>if (aM f sec want).done=true∨(aM f sec want).e≠0 then (f,(aM f sec want).e) else aq sec want k (aS f (aM f sec want).x (fun _=>255))
def b9 (f:Fl)(a b:Int)(s:List Int):Fl×Int:=
  if cN f a b=false∨aN s=false then (flz,200)
  else if (aq a (al f.size 1 (ak s)) 3 f).2≠0 then (flz,(aq a (al f.size 1 (ak s)) 3 f).2)
  else if (aq b (al f.size 0 []) 3 (aq a (al f.size 1 (ak s)) 3 f).1).2≠0 then (flz,(aq b (al f.size 0 []) 3 (aq a (al f.size 1 (ak s)) 3 f).1).2)
  else ((aq b (al f.size 0 []) 3 (aq a (al f.size 1 (ak s)) 3 f).1).1,0)
theorem fH (b w:List UInt8)(k:Nat):bL b w (k+1)=(bL b w k&&(b.getD k 0&&&w.getD k 0==w.getD k 0)):=by
 unfold bL;apply Y 0xba0f
 simp
theorem yg {b w:List UInt8}{k n:Nat}(hk:k<n)(h:b.getD k 0&&&w.getD k 0≠w.getD k 0):bL b w n=false:=by
 unfold bL;rw [List.all_eq_false];exact ⟨k,List.mem_range.2 hk,by simpa [-List.getD_eq_getElem?_getD] using h⟩
theorem cf {n:Nat}{gen:Int}{slot:List UInt8}(h:8+slot.length≤n):(al n gen slot).length=n:=by
 unfold al;apply Y 0xc82f
 split
 ·rw [dg,cJ]
  omega
 rw [List.length_replicate]
 omega
def rW (k:Nat):Nat:=Mz.getD k 15
theorem kO {k:Nat}(h:k<9):rW (k+1)=rW k+wds.getD k 0:=by
 match k,h with
 |0,_|1,_|2,_|3,_|4,_|5,_|6,_|7,_|8,_=>rfl
theorem AF {k:Nat}(h:k<9):rW k+wds.getD k 0≤15:=by
 match k,h with
 |0,_|1,_|2,_|3,_|4,_|5,_|6,_|7,_|8,_=>decide
theorem wK {b:List UInt8}{k:Nat}(h:k<9):(wL b).getD k 0=(pN ((b.drop (rW k)).take (wds.getD k 0)):Int):=by
 match k,h with
 |0,_|1,_|2,_|3,_|4,_|5,_|6,_|7,_|8,_=>rfl
def jD (l:List UInt8)(k:Nat):List Int:=(List.range 9).map fun i=>if i<k then (wL (cr l 15)).getD i 0 else 0
theorem cO (l:List UInt8)(k:Nat):(jD l k).length=9:=by simp [jD]
theorem xU (l:List UInt8):jD l 9=wL (cr l 15):=by
 refine aF (d:=0) (by rw [cO,ij]) fun i hi=>?_
 rw [cO] at hi
 unfold jD;rw [ai hi,if_pos hi]
theorem BV {l:List UInt8}{k:Nat}(h:k<9):(jD l k).set k (pN (cr (l.drop (2*rW k)) (wds.getD k 0)):Int)=jD l (k+1):=by
 refine aF (d:=0) (by rw [List.length_set,cO,cO]) fun i hi=>?_
 rw [List.length_set,cO] at hi;have e1:(jD l (k+1)).getD i 0=if i<k+1 then (wL (cr l 15)).getD i 0 else 0:=by unfold jD;rw [ai hi]
 have e2:(jD l k).getD i 0=if i<k then (wL (cr l 15)).getD i 0 else 0:=by unfold jD;rw [ai hi]
 rw [e1]
 by_cases hk:k=i
 ·subst hk;rw [aT (by rw [cO];exact h),if_pos (Nat.lt_succ_self _),wK h,xT (AF h)]
 rw [getD_set_ne hk,e2]
 by_cases h2:i<k
 ·rw [if_pos h2,if_pos oe]
 rw [if_neg h2,if_neg oe]
def smI:List Nat:=[0,2,4,5,6]
def lgI:List Nat:=[1,7,8]
def smV (s:List Int):List Value:=[.int .i64 (s.getD 0 0),.int .i64 (s.getD 2 0),.int .i64 (s.getD 4 0),.int .i64 (s.getD 5 0),.int .i64 (s.getD 6 0)]
def lgV (s:List Int):List Value:=[.int .i64 (s.getD 1 0),.int .i64 (s.getD 7 0),.int .i64 (s.getD 8 0)]
theorem G3 (s:List Int){k:Nat}(h:k<5):(smV s)[k]?=some (.int .i64 (s.getD (smI.getD k 0) 0)):=by
 match k,h with
 |0,_|1,_|2,_|3,_|4,_=>rfl
theorem H6 (s:List Int){k:Nat}(h:k<3):(lgV s)[k]?=some (.int .i64 (s.getD (lgI.getD k 0) 0)):=by
 match k,h with
 |0,_|1,_|2,_=>rfl
def small (s:List Int)(k:Nat):Prop:=∀ j,j<k→0≤s.getD (smI.getD j 0) 0∧s.getD (smI.getD j 0) 0≤255
def Ez (s:List Int)(k:Nat):Prop:=∀ j,j<k→0≤s.getD (lgI.getD j 0) 0∧s.getD (lgI.getD j 0) 0≤65535
theorem xA {s:List Int}{k:Nat}(h:small s k)(h1:0≤s.getD (smI.getD k 0) 0∧s.getD (smI.getD k 0) 0≤255):small s (k+1):=fun j hj=>by
  by_cases e:j=k
  · subst e;exact h1
  · exact h j oe
theorem xO {s:List Int}{k:Nat}(h:Ez s k)(h1:0≤s.getD (lgI.getD k 0) 0∧s.getD (lgI.getD k 0) 0≤65535):Ez s (k+1):=fun j hj=>by
  by_cases e:j=k
  · subst e;exact h1
  · exact h j oe
theorem kD {s:List Int}:aN s=true↔small s 5∧Ez s 3∧0≤s.getD 3 0∧s.getD 3 0≤4294967295:=by
 constructor
 ·intro h;refine ⟨fun j hj=>?_,fun j hj=>?_,?_⟩
  ·match j,hj with
   |0,_=>have:=bI h (show 0<9 by decide);simp only [show (256^wds.getD 0 0:Nat)=256 from rfl] at this;exact ⟨this.1,by have:=this.2;show s.getD 0 0≤255;omega⟩
   |1,_=>have:=bI h (show 2<9 by decide);simp only [show (256^wds.getD 2 0:Nat)=256 from rfl] at this;exact ⟨this.1,by have:=this.2;show s.getD 2 0≤255;omega⟩
   |2,_=>have:=bI h (show 4<9 by decide);simp only [show (256^wds.getD 4 0:Nat)=256 from rfl] at this;exact ⟨this.1,by have:=this.2;show s.getD 4 0≤255;omega⟩
   |3,_=>have:=bI h (show 5<9 by decide);simp only [show (256^wds.getD 5 0:Nat)=256 from rfl] at this;exact ⟨this.1,by have:=this.2;show s.getD 5 0≤255;omega⟩
   |4,_=>have:=bI h (show 6<9 by decide);simp only [show (256^wds.getD 6 0:Nat)=256 from rfl] at this;exact ⟨this.1,by have:=this.2;show s.getD 6 0≤255;omega⟩
  ·match j,hj with
   |0,_=>have:=bI h (show 1<9 by decide);simp only [show (256^wds.getD 1 0:Nat)=65536 from rfl] at this;exact ⟨this.1,by have:=this.2;show s.getD 1 0≤65535;omega⟩
   |1,_=>have:=bI h (show 7<9 by decide);simp only [show (256^wds.getD 7 0:Nat)=65536 from rfl] at this;exact ⟨this.1,by have:=this.2;show s.getD 7 0≤65535;omega⟩
   |2,_=>have:=bI h (show 8<9 by decide);simp only [show (256^wds.getD 8 0:Nat)=65536 from rfl] at this;exact ⟨this.1,by have:=this.2;show s.getD 8 0≤65535;omega⟩
  have:=bI h (show 3<9 by decide)
  simp only [show (256^wds.getD 3 0:Nat)=4294967296 from rfl] at this
  omega
 apply Y 0xc10f;intro h1 h2 h3
 unfold aN eK;apply Y 0xa00f;intro k hk;replace hk:=List.mem_range.1 hk
 unfold EP;refine decide_eq_true ?_
 match k,hk with
 |0,_=>have:=h1 0 ob;show 0≤s.getD 0 0∧s.getD 0 0<256;exact ⟨this.1,Int.lt_of_le_of_lt this.2 ob⟩
 |1,_=>have:=h2 0 ob;show 0≤s.getD 1 0∧s.getD 1 0<65536;exact ⟨this.1,Int.lt_of_le_of_lt this.2 ob⟩
 |2,_=>have:=h1 1 ob;show 0≤s.getD 2 0∧s.getD 2 0<256;exact ⟨this.1,Int.lt_of_le_of_lt this.2 ob⟩
 |3,_=>show 0≤s.getD 3 0∧s.getD 3 0<4294967296;exact ⟨h3.1,Int.lt_of_le_of_lt h3.2 ob⟩
 |4,_=>have:=h1 2 ob;show 0≤s.getD 4 0∧s.getD 4 0<256;exact ⟨this.1,Int.lt_of_le_of_lt this.2 ob⟩
 |5,_=>have:=h1 3 ob;show 0≤s.getD 5 0∧s.getD 5 0<256;exact ⟨this.1,Int.lt_of_le_of_lt this.2 ob⟩
 |6,_=>have:=h1 4 ob;show 0≤s.getD 6 0∧s.getD 6 0<256;exact ⟨this.1,Int.lt_of_le_of_lt this.2 ob⟩
 |7,_=>have:=h2 1 ob;show 0≤s.getD 7 0∧s.getD 7 0<65536;exact ⟨this.1,Int.lt_of_le_of_lt this.2 ob⟩
 |8,_=>have:=h2 2 ob;show 0≤s.getD 8 0∧s.getD 8 0<65536;exact ⟨this.1,Int.lt_of_le_of_lt this.2 ob⟩
def pZ (s:List Int):List UInt8:=[UInt8.ofInt (s.getD 0 0)]++cz (s.getD 1 0).toNat 2++[UInt8.ofInt (s.getD 2 0)]++cz (s.getD 3 0).toNat 4++[UInt8.ofInt (s.getD 4 0),UInt8.ofInt (s.getD 5 0),UInt8.ofInt (s.getD 6 0)]++cz (s.getD 7 0).toNat 2++cz (s.getD 8 0).toNat 2
theorem gZ {x:Int}(h:0≤x):cz x.toNat 1=[UInt8.ofInt x]:=by
 have e:UInt8.ofInt x=UInt8.ofNat x.toNat:=by
  conv=>lhs;rw [← Int.toNat_of_nonneg h]
  apply UInt8.toNat_inj.1;apply Y 0x740f
  omega
 show [UInt8.ofNat (x.toNat/256^0)]=_;rw [e,Nat.pow_zero,Nat.div_one]
theorem pY {s:List Int}(h:aN s=true):pZ s=bh s 9:=by
 have h0:=fun k (hk:k<9)=>(bI h hk).1
 apply Y 0x350f;intro e;have w0:cz (s.getD 0 0).toNat (wds.getD 0 0)=_:=gZ (h0 0 ob);have w2:cz (s.getD 2 0).toNat (wds.getD 2 0)=_:=gZ (h0 2 ob);have w4:cz (s.getD 4 0).toNat (wds.getD 4 0)=_:=gZ (h0 4 ob);have w5:cz (s.getD 5 0).toNat (wds.getD 5 0)=_:=gZ (h0 5 ob);have w6:cz (s.getD 6 0).toNat (wds.getD 6 0)=_:=gZ (h0 6 ob);rw [e,e,e,e,e,e,e,e,e,w0,w2,w4,w5,w6,show bh s 0=[] from rfl,show wds.getD 1 0=2 from rfl,show wds.getD 3 0=4 from rfl,show wds.getD 7 0=2 from rfl,show wds.getD 8 0=2 from rfl]
 unfold pZ
 simp only [List.nil_append,List.append_assoc,List.cons_append]
def iV (S:Option Addr):List Value:=[ag S 0,.int .i64 1,ag S 1,.int .i64 2,ag S 2,.int .i64 1,ag S 3,.int .i64 4,ag S 4,.int .i64 1,ag S 5,.int .i64 1,ag S 6,.int .i64 1,ag S 7,.int .i64 2,ag S 8,.int .i64 2]
theorem mF (S:Option Addr){k:Nat}(h:k<9):((iV S).drop (k*2)).take 2=[ag S k,.int .i64 (wds.getD k 0:Int)]:=by
 match k,h with
 |0,_=>rfl
 |1,_=>rfl
 |2,_=>rfl
 |3,_=>rfl
 |4,_=>rfl
 |5,_=>rfl
 |6,_=>rfl
 |7,_=>rfl
 |8,_=>rfl
theorem FV {k:Nat}(h:k<9):1≤wds.getD k 0∧wds.getD k 0≤4:=by
 match k,h with
 |0,_=>decide
 |1,_=>decide
 |2,_=>decide
 |3,_=>decide
 |4,_=>decide
 |5,_=>decide
 |6,_=>decide
 |7,_=>decide
 |8,_=>decide
end Go.Sl
