/-
  Part of a proof.
-/
import Derived.Test.YtbpddeiogcgegaaGreatVSlG
set_option maxHeartbeats 0
set_option maxRecDepth 4000
set_option linter.all false
namespace Go.Sl
structure Fl where
  size:Nat
  data:List (List UInt8)
  wear:List Int
  limit:Int
  dead:List Bool
  deriving DecidableEq
structure Fa where
  D:Option Addr
  cD:Nat
  hs:List Hd
  W:Option Addr
  cW:Nat
  E:Option Addr
  cE:Nat
def flL (f:Fl)(a:Fa):List Value:=[.int .i64 (f.size:Int),.slice a.D f.data.length a.cD,.slice a.W f.wear.length a.cW,.int .i64 f.limit,.slice a.E f.dead.length a.cE]
def flV (f:Fl)(a:Fa):Value:=.agg (List.toArray (flL f a))
structure Fl.Ok (f:Fl):Prop where
  s1:1≤f.size
  s2:f.size≤4096
  n1:1≤f.data.length
  n2:f.data.length≤64
  wl:f.wear.length=f.data.length
  dl:f.dead.length=f.data.length
  rows:∀ i,i<f.data.length→(f.data.getD i []).length=f.size
  l1:1≤f.limit
  l2:f.limit≤100000
  wear:∀ i,i<f.data.length→0≤f.wear.getD i 0∧f.wear.getD i 0≤f.limit
structure Fl.Sm (f:Fl):Prop where
  n:f.data.length≤1000000
  w:f.wear.length≤1000000
  d:f.dead.length≤1000000
  r:∀ i,(f.data.getD i []).length≤1000000
theorem dR {α:Type}{l:List α}{i:Nat}{d:α}(h:l.length≤i):l.getD i d=d:=by simp [h]
theorem Fl.Ok.sm {f:Fl}(h:f.Ok):f.Sm:=by
 obtain ⟨_,_,_,_,_,_,hr,_,_,_⟩:=h;refine ⟨by omega,by omega,by omega,fun i=>?_⟩
 by_cases hi:i<f.data.length
 ·rw [hr i hi];exact Zm 0x18
 rw [dR oe];exact Zm 0x43e
theorem aV {α:Type}{l m:List α}{d:α}(h:l.length=m.length)(he:∀ i,i<l.length→l.getD i d=m.getD i d):l=m:=by
 refine List.ext_getElem h fun i h1 h2=>?_
 have:=he i h1
 simpa [List.getD_eq_getElem?_getD,h1,h2] using this
theorem Bi {f g:Fl}(h1:(f.size:Int)=g.size)(h2:f.limit=g.limit)(h3:(f.data.length:Int)=g.data.length)(h4:(f.wear.length:Int)=g.wear.length)(h5:(f.dead.length:Int)=g.dead.length)
    (h6:∀ i,i<f.data.length→f.data.getD i []=g.data.getD i []) (h7:∀ i,i<f.wear.length→f.wear.getD i 0=g.wear.getD i 0) (h8:∀ i,i<f.dead.length→f.dead.getD i false=g.dead.getD i false):f=g:=by
 cases f
 cases g
 simp only [Fl.mk.injEq] at*;exact ⟨by omega,aV oe h6,aV oe h7,h2,aV oe h8⟩
theorem nM {hs:List Hd}{ls:List (List UInt8)}(h:hs.length=ls.length)(g:Hd)(l:List UInt8):ay hs (B8 ls)++[.slice g.1 l.length g.2]=ay (hs++[g]) (B8 (ls++[l])):=by
 have:=nL (hs:=hs) (vss:=B8 ls) obS g (U8 l);rw [aG] at this;rw [this,← LL];exact Zm 0x2
theorem BD (ls:List (List UInt8))(l:List UInt8):B8 ls++[U8 l]=B8 (ls++[l]):=by simp [B8]
theorem LJ (m:Nat)(x:Bool):List.replicate m (Value.bool x)=Bs (List.replicate m x):=by simp [Bs]
theorem ax {e sz n n' c:Nat}{A:Option Addr}{xs ys:List Value}(hn:n=n')(h:xs=ys):Own e sz A n c xs=Own e sz A n' c ys:=by rw [h,hn]
theorem dI {α:Type}(m i:Nat)(x d:α)(h:i<m):(List.replicate m x).getD i d=x:=by simp [h]
structure Fo where
  kind:Int
  sec:Int
  at_:Int
  data:List UInt8
  deriving DecidableEq
def aF (f:Fl)(x:Fo):Int:=
  if x.kind≠1∧x.kind≠2 then 1
  else if ¬(0≤x.sec∧x.sec≤(f.data.length:Int)-1)∨x.kind=2∧(¬(0≤x.at_∧x.at_≤(f.size:Int))∨(x.data.length:Int)>(f.size:Int)-x.at_) then 170
  else if f.dead.getD x.sec.toNat false=true then 171
  else if x.kind=1∧f.wear.getD x.sec.toNat 0=f.limit then 172 else 0
section
variable {f:Fl}{x:Fo}
theorem vo (h:x.kind≠1∧x.kind≠2):aF f x=1:=by unfold aF;rw [if_pos h]
theorem DP (h:x.kind=1∨x.kind=2)(h2:¬(0≤x.sec∧x.sec≤(f.data.length:Int)-1)∨x.kind=2∧(¬(0≤x.at_∧x.at_≤(f.size:Int))∨(x.data.length:Int)>(f.size:Int)-x.at_)):aF f x=170:=by
 unfold aF;rw [if_neg oe,if_pos h2]
theorem vm (h:x.kind=1∨x.kind=2)(h2:0≤x.sec∧x.sec≤(f.data.length:Int)-1∧(x.kind=2→0≤x.at_∧x.at_≤(f.size:Int)∧(x.data.length:Int)≤(f.size:Int)-x.at_))(h3:f.dead.getD x.sec.toNat false=true):aF f x=171:=by
 unfold aF;rw [if_neg oe,if_neg oe,if_pos h3]
theorem vk (_h:x.kind=1∨x.kind=2)(h2:0≤x.sec∧x.sec≤(f.data.length:Int)-1∧(x.kind=2→0≤x.at_∧x.at_≤(f.size:Int)∧(x.data.length:Int)≤(f.size:Int)-x.at_))(h3:f.dead.getD x.sec.toNat false=false)
    (h4:x.kind=1∧f.wear.getD x.sec.toNat 0=f.limit):aF f x=172:=by
 unfold aF;rw [if_neg oe,if_neg oe,if_neg (by rw [h3];simp),if_pos h4]
theorem iZ (h:x.kind=1∨x.kind=2)(h2:0≤x.sec∧x.sec≤(f.data.length:Int)-1∧(x.kind=2→0≤x.at_∧x.at_≤(f.size:Int)∧(x.data.length:Int)≤(f.size:Int)-x.at_))(h3:f.dead.getD x.sec.toNat false=false)
    (h4:¬(x.kind=1∧f.wear.getD x.sec.toNat 0=f.limit)):aF f x=0:=by
 unfold aF;rw [if_neg oe,if_neg oe,if_neg (by rw [h3];simp),if_neg h4]
theorem dq (h:aF f x=0):(x.kind=1∨x.kind=2)∧(0≤x.sec∧x.sec≤(f.data.length:Int)-1∧(x.kind=2→0≤x.at_∧x.at_≤(f.size:Int)∧(x.data.length:Int)≤(f.size:Int)-x.at_))∧
    f.dead.getD x.sec.toNat false=false∧¬(x.kind=1∧f.wear.getD x.sec.toNat 0=f.limit):=by
 unfold aF at h
 split at h
 ·cases h
 split at h
 ·cases h
 split at h
 ·cases h
 split at h
 ·cases h
 next h1 h2 h3 h4=>exact ⟨by omega,by omega,by simpa using h3,h4⟩
def wM (x:Fo)(i:Nat)(o:UInt8):UInt8:=
  if x.kind=1 then 255 else if x.at_≤(i:Int)∧(i:Int)-x.at_<(x.data.length:Int) then o&&&x.data.getD ((i:Int)-x.at_).toNat 0 else o
theorem AR (h:x.kind=1)(i:Nat)(o:UInt8):wM x i o=255:=if_pos h
theorem sV {i:Nat}{o:UInt8}(h:x.kind≠1)(hi:x.at_≤(i:Int)∧(i:Int)-x.at_<(x.data.length:Int)):wM x i o=o&&&x.data.getD ((i:Int)-x.at_).toNat 0:=by unfold wM;rw [if_neg h,if_pos hi]
theorem m5 {i:Nat}{o:UInt8}(h:x.kind≠1)(hi:¬(x.at_≤(i:Int)∧(i:Int)-x.at_<(x.data.length:Int))):wM x i o=o:=by unfold wM;rw [if_neg h,if_neg hi]
def GH (o w m:UInt8):UInt8:=o&&& ~~~m|||w&&&m
def tN (f:Fl)(x:Fo)(mk:Nat→UInt8)(i:Nat):UInt8:=GH ((f.data.getD x.sec.toNat []).getD i 0) (wM x i ((f.data.getD x.sec.toNat []).getD i 0)) (mk i)
def rI (f:Fl)(x:Fo)(mk:Nat→UInt8):List UInt8:=(List.range f.size).map (tN f x mk)
def fR (f:Fl)(x:Fo)(mk:Nat→UInt8):Fl:=
  { f with data:=f.data.set x.sec.toNat (rI f x mk),wear:=if x.kind=1 then f.wear.set x.sec.toNat (f.wear.getD x.sec.toNat 0+1) else f.wear }
def flz:Fl:=⟨0,[],[],0,[]⟩
def az:Fa:=⟨none,0,[],none,0,none,0⟩
def c7 (f:Fl)(x:Fo)(mk:Nat→UInt8):Fl:=if aF f x=0 then fR f x mk else flz
end
def mb {α:Type}(g:Nat→α)(l:List α)(k:Nat):List α:=(List.range k).map g++l.drop k
theorem n3 {α:Type}(g:Nat→α)(l:List α):mb g l 0=l:=by simp [mb]
theorem gq {α:Type}{g:Nat→α}{l:List α}{k:Nat}(h:k≤l.length):(mb g l k).length=l.length:=by simp [mb];omega
theorem CX {α:Type}{g:Nat→α}{l:List α}{k:Nat}(_h:k<l.length)(d:α):(mb g l k).getD k d=l.getD k d:=by
 unfold mb;rw [List.getD_eq_getElem?_getD,List.getElem?_append_right oS];exact Zm 0x81e
theorem ud {α:Type}{g:Nat→α}{l:List α}{k:Nat}(h:k<l.length):(mb g l k).set k (g k)=mb g l (k+1):=by
 unfold mb;rw [List.set_append_right _ _ oS,List.range_succ,List.map_append,List.append_assoc]
 congr 1;have:l.drop k=l[k]::l.drop (k+1):=List.drop_eq_getElem_cons h;rw [List.length_map,List.length_range,Nat.sub_self,this];exact Zm 0x2
theorem ue {α:Type}{g:Nat→α}{l:List α}{k:Nat}(hk:k≤l.length)(d:α)(h:∀ i,k≤i→i<l.length→g i=l.getD i d):mb g l k=(List.range l.length).map g:=by
 refine aV (d:=d) (by rw [gq hk];simp) fun i hi=>?_
 rw [gq hk] at hi;have e2:((List.range l.length).map g).getD i d=g i:=by simp [List.getD_eq_getElem?_getD,hi]
 rw [e2]
 unfold mb
 by_cases hik:i<k
 ·rw [List.getD_eq_getElem?_getD,List.getElem?_append_left (by simpa using hik)]
  simp [hik]
 rw [h i oe hi,List.getD_eq_getElem?_getD,List.getElem?_append_right qb]
 simp only [List.length_map,List.length_range,List.getElem?_drop];rw [show k+(i-k)=i from by omega,List.getD_eq_getElem?_getD]
theorem zy (o w:UInt8):GH o w 0=o:=by
 apply UInt8.eq_of_toBitVec_eq
 simp [GH]
theorem zz (o w:UInt8):GH o w 255=w:=by
 apply UInt8.eq_of_toBitVec_eq
 unfold GH
 ext i hi;have h255:((255:UInt8).toBitVec).getLsbD i=true:=by
  have:∀ j,j<8→((255:UInt8).toBitVec).getLsbD j=true:=ob
  exact this i hi
 simp [BitVec.getLsbD_eq_getElem hi] at h255 ⊢
 exact fun _=>h255
theorem Db (o w m:UInt8):o^^^((o^^^w)&&&m)=GH o w m:=by
 apply UInt8.eq_of_toBitVec_eq
 unfold GH
 ext i hi
 simp
 cases o.toBitVec[i]<;>cases w.toBitVec[i]<;>cases m.toBitVec[i]<;>rfl
theorem aQ {α:Type}{l:List α}{i:Nat}(h:i<l.length)(x d:α):(l.set i x).getD i d=x:=QQ
theorem getD_set_ne {α:Type}{l:List α}{i j:Nat}(h:i≠j)(x d:α):(l.set i x).getD j d=l.getD j d:=QQ
theorem Cb {α:Type}{l:List α}{i:Nat}(d:α):l.set i (l.getD i d)=l:=by
 refine List.ext_getElem oS fun j h1 h2=>?_
 rw [List.getElem_set]
 split
 ·next h=>subst h;simp [List.getD_eq_getElem?_getD,h2]
 exact Zm 0x2
theorem ak {α:Type}{g:Nat→α}{n i:Nat}(h:i<n)(d:α):((List.range n).map g).getD i d=g i:=QQ
def fH (f:Fl)(x:Fo):List UInt8:=(List.range f.size).map fun i=>wM x i ((f.data.getD x.sec.toNat []).getD i 0)
theorem hX (f:Fl)(x:Fo):(fH f x).length=f.size:=by simp [fH]
theorem wK {f:Fl}{x:Fo}{k:Nat}(h:k<f.size):(U8 (fH f x))[k]?=some (.int .u8 ((wM x k ((f.data.getD x.sec.toNat []).getD k 0)).toNat:Int)):=by
 rw [bn (by rw [hX];exact h)]
 unfold fH;rw [ak h]
theorem D2 {f:Fl}{x:Fo}(h:x.kind=1):fH f x=List.replicate f.size 255:=by
 unfold fH
 simp only [AR h];rw [List.map_const',List.length_range]
def wL (row data:List UInt8)(p k:Nat):List UInt8:=(List.range row.length).map fun i=>if p≤i∧i<p+k then row.getD i 0&&&data.getD (i-p) 0 else row.getD i 0
theorem cm (row data:List UInt8)(p k:Nat):(wL row data p k).length=row.length:=by simp [wL]
theorem AQ (row data:List UInt8)(p:Nat):wL row data p 0=row:=by
 refine aV (d:=0) (cm _ _ _ _) fun i hi=>?_
 rw [cm] at hi
 unfold wL;rw [ak hi,if_neg oe]
theorem D4 {row data:List UInt8}{p k:Nat}(h:p+k<row.length):(wL row data p k).getD (p+k) 0=row.getD (p+k) 0:=by
 unfold wL;rw [ak h,if_neg oe]
theorem D3 {row data:List UInt8}{p k:Nat}(h:p+k<row.length):(wL row data p k).set (p+k) (row.getD (p+k) 0&&&data.getD k 0)=wL row data p (k+1):=by
 refine aV (d:=0) (by rw [List.length_set,cm,cm]) fun i hi=>?_
 rw [List.length_set,cm] at hi
 by_cases hik:p+k=i
 ·subst hik;rw [aQ (by rw [cm];exact h)]
  unfold wL;rw [ak h,if_pos oe,show p+k-p=k from by omega]
 rw [getD_set_ne hik]
 unfold wL;rw [ak hi,ak hi]
 by_cases hc:p≤i∧i<p+k
 ·rw [if_pos hc,if_pos oe]
 rw [if_neg hc,if_neg oe]
theorem D5 {f:Fl}{x:Fo}(hk:x.kind≠1)(h0:0≤x.at_)(hl:(f.data.getD x.sec.toNat []).length=f.size):wL (f.data.getD x.sec.toNat []) x.data x.at_.toNat x.data.length=fH f x:=by
 refine aV (d:=0) (by rw [cm,hX,hl]) fun i hi=>?_
 rw [cm] at hi
 unfold wL fH;rw [ak hi,ak oe]
 by_cases hc:x.at_.toNat≤i∧i<x.at_.toNat+x.data.length
 ·rw [if_pos hc,sV hk oe,show ((i:Int)-x.at_).toNat=i-x.at_.toNat from by omega]
 rw [if_neg hc,m5 hk oe]
theorem eu (f:Fl)(x:Fo)(mk:Nat→UInt8):(rI f x mk).length=f.size:=by simp [rI]
theorem x3 {hs:List Hd}{ls:List (List UInt8)}{s:Nat}{l:List UInt8}(h:hs.length=ls.length)(hs':s<ls.length)(hl:l.length=(ls.getD s []).length):ay hs (B8 (ls.set s l))=ay hs (B8 ls):=by
 refine List.ext_getElem? fun i=>?_
 by_cases hi:i<ls.length
 ·rw [aK (by rw [List.length_set];exact h) (by rw [List.length_set];exact hi),aK h hi]
  by_cases his:s=i
  ·subst his;rw [aQ hs',hl]
  rw [getD_set_ne his]
 rw [List.getElem?_eq_none (by rw [bk (by rw [bF,List.length_set];exact h),bF,List.length_set];omega),List.getElem?_eq_none (by rw [bk obS,bF];omega)]
theorem bO {f:Fl}{x:Fo}(hE:aF f x=0)(mk:Nat→UInt8):c7 f x mk=fR f x mk:=if_pos hE
theorem DD {f:Fl}{x:Fo}(hE:aF f x≠0)(mk:Nat→UInt8):c7 f x mk=flz:=if_neg hE
theorem vP {f:Fl}{x:Fo}{mk mk':Nat→UInt8}(h:∀ i,i<f.size→mk i=mk' i):rI f x mk=rI f x mk':=by
 unfold rI;refine List.map_congr_left fun i hi=>?_
 unfold tN;rw [h i (by simpa using hi)]
theorem wt {f:Fl}{x:Fo}{mk mk':Nat→UInt8}(h:∀ i,i<f.size→mk i=mk' i):c7 f x mk=c7 f x mk':=by
 unfold c7 fR;rw [vP h]
theorem bm {f:Fl}(x:Fo)(mk:Nat→UInt8):(fR f x mk).data.length=f.data.length:=List.length_set
theorem j7 {f:Fl}(x:Fo)(mk:Nat→UInt8):(fR f x mk).wear.length=f.wear.length:=by
 apply Y 0x84e3de
 split<;>simp
theorem G9 {f:Fl}{x:Fo}(ok:f.Ok)(hE:aF f x=0)(mk:Nat→UInt8):(fR f x mk).Ok:=by
 apply Y 0xfb2f;intro q1 q2 q3 q4 q5 q6;obtain ⟨o1,o2,o3,o4,o5,o6,o7,o8,o9,o10⟩:=ok;refine ⟨o1,o2,by rw [bm];exact o3,by rw [bm];exact o4,by rw [bm,j7];exact o5,by rw [bm];exact o6,fun i hi=>?_,o8,o9,fun i hi=>?_⟩
 ·rw [bm] at hi
  show ((f.data.set x.sec.toNat (rI f x mk)).getD i []).length=f.size
  by_cases his:x.sec.toNat=i
  ·subst his;rw [aQ hi,eu]
  rw [getD_set_ne his]
  exact o7 i hi
 rw [bm] at hi
 show 0≤(if x.kind=1 then f.wear.set x.sec.toNat (f.wear.getD x.sec.toNat 0+1) else f.wear).getD i 0∧(if x.kind=1 then f.wear.set x.sec.toNat (f.wear.getD x.sec.toNat 0+1) else f.wear).getD i 0≤f.limit
 split
 ·next hk=>
  by_cases his:x.sec.toNat=i
  ·subst his;rw [aQ oe];have:=o10 _ hi;have:f.wear.getD x.sec.toNat 0≠f.limit:=fun h=>q6 ⟨hk,h⟩
   exact Zm 0x18
  rw [getD_set_ne his]
  exact o10 i hi
 exact o10 i hi
theorem jK {g:Nat→UInt8}{l:List UInt8}{k:Nat}(h:k<l.length):(U8 (mb g l k))[k]?=some (.int .u8 ((l.getD k 0).toNat:Int)):=by
 rw [bn (by rw [gq oe];exact h),CX h]
theorem x4 {hs:List Hd}{ls:List (List UInt8)}{s:Nat}{A:Option Addr}{c:Nat}{l:List UInt8}:(ay hs (B8 ls)).set s (.slice A l.length c)=ay (hs.set s (A,c)) (B8 (ls.set s l)):=by
 rw [← vC];refine List.ext_getElem? fun i=>?_
 unfold ay;rw [List.getElem?_set,List.getElem?_zipWith,List.getElem?_zipWith,List.getElem?_set,List.getElem?_set]
 by_cases hi:s=i
 ·subst hi
  simp only [if_true,List.length_zipWith,Nat.lt_min]
  by_cases h1:s<hs.length
  ·by_cases h2:s<(B8 ls).length
   ·simp [h1,h2,aG]
   simp [h1,h2]
  simp [h1]
 simp [hi]
structure Nx where
  x:Fo
  done:Bool
  e:Int
  deriving DecidableEq
def fo0:Fo:=⟨0,0,0,[]⟩
def lM (row want:List UInt8)(k:Nat):Bool:=(List.range k).all fun i=>want.getD i 0&&& ~~~(row.getD i 0)==0
theorem nv (row want:List UInt8)(k:Nat):lM row want (k+1)=(lM row want k&&(want.getD k 0&&& ~~~(row.getD k 0)==0)):=by
 unfold lM;exact Zm 0x81e521f
theorem xi {row want:List UInt8}{k n:Nat}(hk:k<n)(h:want.getD k 0&&& ~~~(row.getD k 0)≠0):lM row want n=false:=by
 unfold lM
 exact List.all_eq_false.2 ⟨k,by simpa using hk,by simpa using h⟩
theorem eH (r w:UInt8):r&&&w=w↔w&&& ~~~r=0:=by
 rw [← UInt8.toBitVec_inj,← UInt8.toBitVec_inj]
 constructor
 ·intro h
  ext i hi;apply Y 0xd72f;intro h1
  simp [BitVec.getLsbD_eq_getElem hi] at h1 ⊢
  cases hr:r.toBitVec[i]<;>cases hw:w.toBitVec[i]<;>simp_all
 intro h
 ext i hi;apply Y 0xd72f;intro h1
 simp [BitVec.getLsbD_eq_getElem hi] at h1 ⊢
 cases hr:r.toBitVec[i]<;>cases hw:w.toBitVec[i]<;>simp_all
def ed (f:Fl)(sec:Int)(want:List UInt8):Fo:=if lM (f.data.getD sec.toNat []) want f.size=true then ⟨2,sec,0,want⟩ else ⟨1,sec,0,[]⟩
def aS (f:Fl)(sec:Int)(want:List UInt8):Nx:=
  if ¬(0≤sec∧sec≤(f.data.length:Int)-1)∨want.length≠f.size then ⟨fo0,false,170⟩
  else if f.data.getD sec.toNat []=want then ⟨fo0,true,0⟩
  else if aF f (ed f sec want)≠0 then ⟨fo0,false,aF f (ed f sec want)⟩ else ⟨ed f sec want,false,0⟩
section
variable {f:Fl}{sec:Int}{want:List UInt8}
theorem H9 (h:¬(0≤sec∧sec≤(f.data.length:Int)-1)∨want.length≠f.size):aS f sec want=⟨fo0,false,170⟩:=if_pos h
theorem kU (h:¬(¬(0≤sec∧sec≤(f.data.length:Int)-1)∨want.length≠f.size))(h2:f.data.getD sec.toNat []=want):aS f sec want=⟨fo0,true,0⟩:=by unfold aS;rw [if_neg h,if_pos h2]
theorem nu {x:Fo}(h:¬(¬(0≤sec∧sec≤(f.data.length:Int)-1)∨want.length≠f.size))(h2:f.data.getD sec.toNat []≠want)(hx:ed f sec want=x)(h3:aF f x≠0):aS f sec want=⟨fo0,false,aF f x⟩:=by
 subst hx
 unfold aS;exact Zm 0x131f
theorem kT {x:Fo}(h:¬(¬(0≤sec∧sec≤(f.data.length:Int)-1)∨want.length≠f.size))(h2:f.data.getD sec.toNat []≠want)(hx:ed f sec want=x)(h3:¬ aF f x≠0):aS f sec want=⟨x,false,0⟩:=by
 subst hx
 unfold aS;rw [if_neg h,if_neg h2,if_neg h3]
theorem tm (h:lM (f.data.getD sec.toNat []) want f.size=true):ed f sec want=⟨2,sec,0,want⟩:=if_pos h
theorem tj (h:lM (f.data.getD sec.toNat []) want f.size=false):ed f sec want=⟨1,sec,0,[]⟩:=if_neg Qy
end
def BI (sec:Int)(want:List UInt8)(W:Option Addr)(wc:Nat)(good:Bool)(x:Fo)(XA:Option Addr)(xc:Nat):Prop:=
  (good=true∧x=⟨2,sec,0,want⟩∧XA=W∧xc=wc)∨(good=false∧x=⟨1,sec,0,[]⟩∧XA=none∧xc=0)
theorem BI.next {sec:Int}{want:List UInt8}{W:Option Addr}{wc:Nat}{g:Bool}{x:Fo}{XA:Option Addr}{xc:Nat}(h:BI sec want W wc g x XA xc)(b:Bool)(hb:b=true):BI sec want W wc (g&&b) x XA xc:=by
 subst hb;rw [Bool.and_true];exact Zm 0x22e
theorem BI.has {sec:Int}{want:List UInt8}{W:Option Addr}{wc:Nat}{g:Bool}{x:Fo}{XA:Option Addr}{xc:Nat}{R H:List Pr}(h:BI sec want W wc g x XA xc)(hw:Has R H (Rd W (U8 want))):Has R H (Rd XA (U8 x.data)):=by
 rcases h with ⟨_,rfl,rfl,_⟩|⟨_,rfl,rfl,_⟩
 ·exact hw
 exact Has.nil
theorem BI.len {sec:Int}{want:List UInt8}{W:Option Addr}{wc:Nat}{g:Bool}{x:Fo}{XA:Option Addr}{xc:Nat}(h:BI sec want W wc g x XA xc):x.data.length≤want.length:=by
 rcases h with ⟨_,rfl,rfl,_⟩|⟨_,rfl,rfl,_⟩<;>simp
theorem BI.eq {f:Fl}{sec:Int}{want:List UInt8}{W:Option Addr}{wc:Nat}{x:Fo}{XA:Option Addr}{xc:Nat}(h:BI sec want W wc (lM (f.data.getD sec.toNat []) want f.size) x XA xc):ed f sec want=x:=by
 rcases h with ⟨hg,rfl,_⟩|⟨hg,rfl,_⟩
 ·exact tm hg
 exact tj hg
section
variable {X:Cx}{β:Base}{Γ:Env}{R H:List Pr}
theorem Ev.shr {t ty:Nat}{x y:Operand}{k yk:IntKind}{a b:Int}(hx:ev Γ x=some (.int k a))(hy:ev Γ y=some (.int yk b))(h0:0≤b):Ev X β Γ R H (.binOp .shr t x y ty) (.int k (a.fdiv (2^min b.toNat k.bits))):=by
 intro ρ w hρ hw o ho;have hg:(eqGuard .shr t x y (.int k a) (.int yk b)).run X.P w=.ok () w:=qH;have hb:¬ b<0:=oe
 simp [execOp,ho,hρ _ _ hx,hρ _ _ hy,hg,binOp_shr,Op.shift,hb]
end
theorem Has.take {R H:List Pr}{A:Option Addr}{xs:List Value}(h:Has R H (Rd A xs))(m:Nat):Has R H (Rd A (xs.take m)):=by
 refine ⟨fun β w hw j u hu=>h.1 β w hw j u ?_,fun k hk=>h.2 k ⟨fun h0=>hk.1 (by rw [h0,List.take_nil]),hk.2⟩⟩;rw [List.getElem?_take] at hu
 split at hu
 ·exact hu
 cases hu
theorem bz (l:List UInt8)(m:Nat):(U8 l).take m=U8 (l.take m):=by simp [U8,List.map_take]
theorem Nq {a b:UInt8}(h:∀ i,(hi:i<8)→a.toBitVec[i]=b.toBitVec[i]):a=b:=by
 apply UInt8.eq_of_toBitVec_eq
 ext i hi
 exact h i hi
theorem AU (a:UInt8):a&&&0=0:=by
 apply UInt8.eq_of_toBitVec_eq
 ext i hi;exact Zm 0x81e
structure GoodOp (f:Fl)(x:Fo):Prop where
  k:x.kind=1∨x.kind=2
  s:0≤x.sec∧x.sec≤(f.data.length:Int)-1
  p:x.kind=2→0≤x.at_∧x.at_≤(f.size:Int)∧(x.data.length:Int)≤(f.size:Int)-x.at_
section
variable {f:Fl}{x:Fo}{mk:Nat→UInt8}
theorem GoodOp.lt (g:GoodOp f x):x.sec.toNat<f.data.length:=by have:=g.s;omega
theorem lG (h:aF f x=0):GoodOp f x:=⟨(dq h).1,⟨(dq h).2.1.1,(dq h).2.1.2.1⟩,(dq h).2.1.2.2⟩
theorem u2 (h:x.sec.toNat<f.data.length):(fR f x mk).data.getD x.sec.toNat []=rI f x mk:=aQ h _ _
theorem wA {i:Nat}(h:x.sec.toNat≠i):(fR f x mk).data.getD i []=f.data.getD i []:=getD_set_ne h _ _
theorem tM {i:Nat}(h:i<f.size)(d:UInt8):(rI f x mk).getD i d=tN f x mk i:=ak h d
theorem wy (hk:x.kind=1)(h:x.sec.toNat<f.wear.length):(fR f x mk).wear.getD x.sec.toNat 0=f.wear.getD x.sec.toNat 0+1:=by
 apply Y 0x84e3de;rw [if_pos hk,aQ h]
theorem wx (hk:x.kind≠1):(fR f x mk).wear=f.wear:=by
 apply Y 0x84e3de;rw [if_neg hk]
theorem wu {i:Nat}(h:x.sec.toNat≠i):(fR f x mk).wear.getD i 0=f.wear.getD i 0:=by
 apply Y 0x84e3de
 split
 ·exact getD_set_ne h _ _
 exact Zm 0x2
theorem Ct {i:Nat}(h:mk i=255):tN f x mk i=wM x i ((f.data.getD x.sec.toNat []).getD i 0):=by
 unfold tN;rw [h,zz]
theorem EJ (f:Fl)(x:Fo)(i:Nat):tN f x (fun _=>255) i=wM x i ((f.data.getD x.sec.toNat []).getD i 0):=Ct rfl
structure Kept (f g:Fl):Prop where
  ok:g.Ok
  n:g.data.length=f.data.length
  s:g.size=f.size
  l:g.limit=f.limit
  w:g.wear.length=f.data.length
  e:g.dead.length=f.data.length
  d:g.dead=f.dead
  r:∀ i,i<f.data.length→(g.data.getD i []).length=f.size
theorem eb (ok:f.Ok)(hE:aF f x=0)(mk:Nat→UInt8):Kept f (c7 f x mk):=by
 rw [bO hE];have h:=G9 ok hE mk;exact ⟨h,bm _ _,rfl,rfl,by rw [h.wl,bm],by rw [h.dl,bm],rfl,fun i hi=>h.rows i (by rw [bm];exact hi)⟩
theorem wq (hE:aF f x=0){i:Nat}(h:x.sec.toNat≠i):(c7 f x mk).data.getD i []=f.data.getD i []:=by rw [bO hE];exact wA h
theorem lA (ok:f.Ok)(hE:aF f x=0){k:Nat}(hk:x.kind=1)(h:(k:Int)=x.sec):f.wear.getD k 0+1=(c7 f x mk).wear.getD k 0:=by
 obtain rfl:x.sec.toNat=k:=oe;rw [bO hE,wy hk (by rw [ok.wl];exact (lG hE).lt)]
theorem gZ (hE:aF f x=0){k:Nat}(h:¬(x.kind=1∧(k:Int)=x.sec)):f.wear.getD k 0=(c7 f x mk).wear.getD k 0:=by
 rw [bO hE]
 by_cases hk:x.kind=1
 ·have:=(lG hE).s;rw [wu (fun e=>h ⟨hk,by omega⟩)]
 rw [wx hk]
end
end Go.Sl
