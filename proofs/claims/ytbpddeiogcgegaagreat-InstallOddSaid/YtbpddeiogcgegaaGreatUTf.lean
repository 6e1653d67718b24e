/-
  Part of a proof.
-/
import Derived.Test.YtbpddeiogcgegaaGreatChecked
import Derived.Test.YtbpddeiogcgegaaGreatUTc
import Derived.Test.YtbpddeiogcgegaaGreatUJa
set_option maxHeartbeats 0
set_option maxRecDepth 4000
set_option linter.all false
namespace Go.Sl
def dz (data:List (List UInt8))(fs i:Int):Bool:=decide (0≤i)&&decide (i<(data.length:Int))&&decide (((data.getD i.toNat []).length:Int)=fs)
def yZ (data:List (List UInt8))(fs ls sz:Int)(n:Nat)(st lst:List Int):Bool:=
  decide (fs=sz)&&decide (ls=(n:Int))&&decide (st.length≤lst.length)&&((List.range n).all fun t=>dz data fs (t:Int))&&((List.range st.length).all fun i=>dz data fs (lst.getD i 0))
section
variable {data:List (List UInt8)}{fs ls sz i:Int}{n t k:Nat}{st lst:List Int}
theorem sQ (h:i<0):dz data fs i=false:=by unfold dz;rw [decide_eq_false oe];rfl
theorem sP (h:(data.length:Int)≤i):dz data fs i=false:=by unfold dz;rw [decide_eq_false (show ¬ i<(data.length:Int) by omega)];simp
theorem Bi (h:((data.getD i.toNat []).length:Int)≠fs):dz data fs i=false:=by unfold dz;rw [decide_eq_false h];simp
theorem Bh (h1:0≤i)(h2:i<(data.length:Int))(h3:((data.getD i.toNat []).length:Int)=fs):dz data fs i=true:=by unfold dz;rw [decide_eq_true h1,decide_eq_true h2,decide_eq_true h3];rfl
theorem ix:dz data fs i=true↔0≤i∧i<(data.length:Int)∧((data.getD i.toNat []).length:Int)=fs:=by
 unfold dz
 simp only [Bool.and_eq_true,decide_eq_true_eq,and_assoc]
theorem l9:yZ data fs ls sz n st lst=true↔fs=sz∧ls=(n:Int)∧st.length≤lst.length∧(∀ t,t<n→dz data fs (t:Int)=true)∧∀ i,i<st.length→dz data fs (lst.getD i 0)=true:=by
 unfold yZ
 simp only [Bool.and_eq_true,decide_eq_true_eq,List.all_eq_true,List.mem_range,and_assoc]
theorem gp (h:¬(fs=sz∧ls=(n:Int)∧st.length≤lst.length∧(∀ t,t<n→dz data fs (t:Int)=true)∧∀ i,i<st.length→dz data fs (lst.getD i 0)=true)):yZ data fs ls sz n st lst=false:=by
 cases hb:yZ data fs ls sz n st lst with
 |false=>rfl
 |true=>exact absurd (l9.1 hb) h
def wZ (st lst:List Int)(k t:Nat):Int:=if (st.take k).contains (t:Int)=true then lst.getD (st.idxOf (t:Int)) 0 else (t:Int)
def kf (st lst:List Int)(n k:Nat):List Int:=(List.range n).map (wZ st lst k)
theorem cr (st lst:List Int)(n k:Nat):(kf st lst n k).length=n:=by simp [kf]
theorem fm (h:t<n):(kf st lst n k).getD t 0=wZ st lst k t:=ak h _
theorem w8:kf st lst n 0=NI (List.range n):=by
 unfold kf NI;refine List.map_congr_left fun t _=>?_
 unfold wZ;rw [List.take_zero,if_neg oO]
theorem Cv {l:List Int}(hn:l.Nodup)(h:k<l.length):l.idxOf (l.getD k 0)=k:=by
 have hm:l.getD k 0∈l:=by
  exact Zm 0xe40f580f
 apply Y 0xc42f;intro h1;have h2:l.getD (l.idxOf (l.getD k 0)) 0=l.getD k 0:=by
  exact Zm 0x51e211f
 rcases Nat.lt_trichotomy (l.idxOf (l.getD k 0)) k with g|g|g
 ·exact absurd h2 (eO hn _ _ g h)
 ·exact g
 exact absurd h2.symm (eO hn _ _ g h1)
theorem w9 (hn:st.Nodup)(hk:k<st.length)(ht:st.getD k 0=(t:Int)):(kf st lst n k).set t (lst.getD k 0)=kf st lst n (k+1):=by
 refine a8 (d:=0) (by rw [List.length_set,cr,cr]) (fun u hu=>?_);rw [List.length_set,cr] at hu;rw [fm hu];have htk:st.take (k+1)=st.take k++[(t:Int)]:=by rw [aA st 0 k hk,ht]
 by_cases e:t=u
 ·subst e;rw [aZ (by rw [cr];exact hu)]
  unfold wZ;rw [htk,if_pos oO,← ht,Cv hn hk]
 rw [getD_set_ne e,fm hu]
 unfold wZ;rw [htk];have:(st.take k++[(t:Int)]).contains (u:Int)=(st.take k).contains (u:Int):=by
  rw [Bool.eq_iff_iff,List.contains_iff_mem,List.contains_iff_mem,List.mem_append,List.mem_singleton]
  constructor
  ·rintro (h|h)
   ·exact Zm 0xc2e
   exact Zm 0x18
  exact .inl
 rw [this]
def inB (data:List (List UInt8))(st lst:List Int)(S i:Nat):UInt8:=(data.getD (wZ st lst st.length (i/S)).toNat []).getD (i%S) 0
def inL (data:List (List UInt8))(st lst:List Int)(S k:Nat):List UInt8:=(List.range k).map (inB data st lst S)
theorem fJ (data:List (List UInt8))(st lst:List Int)(S k:Nat):(inL data st lst S k).length=k:=by simp [inL]
theorem Cu (data:List (List UInt8))(st lst:List Int)(S k:Nat):inL data st lst S (k+1)=inL data st lst S k++[inB data st lst S k]:=by simp [inL,List.range_succ]
theorem lx:wZ st lst st.length t=if 0≤eB st (t:Int) then lst.getD (eB st (t:Int)).toNat 0 else (t:Int):=by
 unfold wZ eB;apply Y 0x36e
 by_cases h:st.contains (t:Int)=true
 ·rw [if_pos h,if_pos h,if_pos oe,Int.toNat_natCast]
 rw [if_neg h,if_neg h,if_neg oe]
def Ax (data:List (List UInt8))(secs:List Int)(k:Nat):List UInt8:=(secs.take k).flatMap fun i=>data.getD i.toNat []
theorem jR {secs:List Int}(h:k<secs.length):Ax data secs (k+1)=Ax data secs k++data.getD (secs.getD k 0).toNat []:=by
 unfold Ax;rw [aA secs 0 k h,List.flatMap_append];exact Zm 0x51e
theorem gx {secs:List Int}{S:Nat}(h:∀ i,i<secs.length→(data.getD (secs.getD i 0).toNat []).length=S):∀ k,k≤secs.length→(Ax data secs k).length=k*S
  |0,_=>by simp [Ax]
  |k+1,hk=>by rw [jR hk,List.length_append,gx h k oe,h k hk,Nat.succ_mul]
theorem uz {secs:List Int}{S:Nat}(hS:1≤S)(h:∀ i,i<secs.length→(data.getD (secs.getD i 0).toNat []).length=S):∀ k,k≤secs.length→∀ i,i<k*S→(Ax data secs k).getD i 0=(data.getD (secs.getD (i/S) 0).toNat []).getD (i%S) 0
  |0,_,i,hi=>by omega
  |k+1,hk,i,hi=>by
    have hl:=gx h k oe
    rw [jR hk]
    rw [Nat.succ_mul] at hi
    by_cases q:i<k*S
    · rw [List.getD_eq_getElem?_getD,List.getElem?_append_left oe,← List.getD_eq_getElem?_getD,uz hS h k oe i q]
    · have e1:i/S=k:=(eU hS).2 oe
      have e2:i%S=i-k*S:=by
        have:=Nat.div_add_mod i S
        rw [e1,Nat.mul_comm] at this
        omega
      rw [List.getD_eq_getElem?_getD,List.getElem?_append_right oe,hl,e1,e2,← List.getD_eq_getElem?_getD]
theorem IQ {S m:Nat}(hS:1≤S)(h:∀ i,i<n→(data.getD (wZ st lst st.length i).toNat []).length=S)(hm:m≤n*S):(Ax data (kf st lst n st.length) n).take m=inL data st lst S m:=by
 have hh:∀ i,i<(kf st lst n st.length).length→(data.getD ((kf st lst n st.length).getD i 0).toNat []).length=S:=fun i hi=>by
  rw [cr] at hi;rw [fm hi]
  exact h i hi
 have hl:=gx hh n oar;refine a8 (d:=0) (by rw [List.length_take,hl,fJ];omega) (fun i hi=>?_);rw [List.length_take,hl] at hi;have hin:i/S<n:=by
  rw [Nat.div_lt_iff_lt_mul oe];exact Zm 0x18
 rw [List.getD_eq_getElem?_getD,List.getElem?_take_of_lt oe,← List.getD_eq_getElem?_getD,uz hS hh n oar i oe,fm hin]
 exact (ak (g:=inB data st lst S) oe 0).symm
end
theorem wI {chg:List Nat}{st:List Int}(h:stB (NI chg) st=true):st.Nodup∧∀ i,i<st.length→∃ t:Nat,st.getD i 0=(t:Int)∧t∈chg:=by
 have hall:=List.all_eq_true.1 h;have key:∀ i,i<st.length→(∃ t:Nat,st.getD i 0=(t:Int)∧t∈chg)∧(0<i→st.getD (i-1) 0<st.getD i 0):=by
  intro i hi;have h1:=hall i (List.mem_range.2 hi)
  unfold stT at h1;rw [Bool.and_eq_true,List.contains_iff_mem] at h1;obtain ⟨t,ht,e⟩:=List.mem_map.1 h1.1;refine ⟨⟨t,e.symm,ht⟩,fun h0=>?_⟩;have h2:=h1.2;rw [decide_eq_true h0,Bool.true_and,Bool.not_eq_true'] at h2;have:=of_decide_eq_false h2;exact Zm 0x18
 have mono:∀ d i,i+d+1<st.length→st.getD i 0<st.getD (i+d+1) 0:=by
  intro d
  induction d with
  |zero=>
   intro i hi;have:=(key (i+1) hi).2 oe
   simpa using this
  |succ d ih=>
   intro i hi;have h1:=ih i oe;have h2:=(key (i+(d+1)+1) hi).2 oe;rw [show i+(d+1)+1-1=i+d+1 by omega] at h2;exact Zm 0x18
 refine ⟨?_,fun i hi=>(key i hi).1⟩
 show List.Pairwise (· ≠·) st;rw [List.pairwise_iff_getElem];intro i j hi hj hij e;have:=mono (j-i-1) i oe;rw [show i+(j-i-1)+1=j by omega,List.getD_eq_getElem?_getD,List.getD_eq_getElem?_getD,List.getElem?_eq_getElem hi,List.getElem?_eq_getElem hj] at this
 simp [e] at this
def vQ (n i:Nat):List Int:=(List.range n).map fun (t:Nat)=>if t<i then (t:Int) else 0
theorem ef (n i:Nat):(vQ n i).length=n:=by simp [vQ]
theorem xm (n:Nat):vQ n 0=List.replicate n 0:=by
 refine a8 (d:=0) (by simp [vQ]) (fun i hi=>?_);rw [ef] at hi
 unfold vQ;exact Zm 0x51ebc3f
theorem By {n i:Nat}(_h:i<n):(vQ n i).set i (i:Int)=vQ n (i+1):=by
 refine a8 (d:=0) (by rw [List.length_set,ef,ef]) (fun u hu=>?_);rw [List.length_set,ef] at hu
 by_cases e:i=u
 ·subst e;rw [aZ (by rw [ef];exact hu)]
  unfold vQ;rw [ak hu,if_pos (Nat.lt_succ_self _)]
 rw [getD_set_ne e]
 unfold vQ;rw [ak hu,ak hu]
 by_cases q:u<i
 ·rw [if_pos q,if_pos oe]
 rw [if_neg q,if_neg oe]
theorem Bz (n:Nat):vQ n n=NI (List.range n):=by
 unfold vQ NI;refine List.map_congr_left fun t ht=>?_
 rw [if_pos (List.mem_range.1 ht)]
def dU (n:Nat)(lst:List Int)(m:Nat):List Int:=NI (List.range n)++lst.take m
theorem tF {n m:Nat}{lst:List Int}(h:m≤lst.length):(dU n lst m).length=n+m:=by
 unfold dU;rw [List.length_append,bm,List.length_range,List.length_take];exact Zm 0x18
theorem yo {n m t:Nat}{lst:List Int}(h:t<n):(dU n lst m).getD t 0=(t:Int):=by
 unfold dU;rw [List.getD_eq_getElem?_getD,List.getElem?_append_left (by rw [bm,List.length_range];exact h)]
 simp [NI,h]
theorem yp {n m i:Nat}{lst:List Int}(h:i<m):(dU n lst m).getD (n+i) 0=lst.getD i 0:=by
 unfold dU;rw [List.getD_eq_getElem?_getD,List.getElem?_append_right (by rw [bm,List.length_range];omega),bm,List.length_range,List.getElem?_take_of_lt oe,show n+i-n=i by omega,← List.getD_eq_getElem?_getD]
def cntE (lf:Bool)(sz n inn out:Int)(ops:List Po)(seq st:List Int)(data:List (List UInt8))(fs ls:Int)(lst:List Int)(k:Int):Int:=
  if eD lf sz n inn out ops seq st=false then 190 else if k<0∨(seq.length:Int)≤k then 1 else if yZ data fs ls sz n.toNat st lst=false then 220 else 0
def G1 (sz inn:Int)(ops:List Po)(seq st:List Int)(data:List (List UInt8))(lst:List Int)(k:Int):List UInt8:=
  ctF (bf (inL data st lst sz.toNat inn.toNat) (ah ops)) (seq.getD k.toNat 0).toNat sz.toNat
def cntV (lf:Bool)(sz n inn out:Int)(ops:List Po)(seq st:List Int)(data:List (List UInt8))(fs ls:Int)(lst:List Int)(k:Int):List UInt8:=
  if cntE lf sz n inn out ops seq st data fs ls lst k=0 then G1 sz inn ops seq st data lst k else []
section
variable {lf:Bool}{sz n inn out:Int}{ops:List Po}{seq st:List Int}{data:List (List UInt8)}{fs ls:Int}{lst:List Int}{k:Int}
theorem Ej (h:eD lf sz n inn out ops seq st=false):cntE lf sz n inn out ops seq st data fs ls lst k=190:=by unfold cntE;rw [if_pos h]
theorem uj (h:eD lf sz n inn out ops seq st=true)(h2:k<0∨(seq.length:Int)≤k):cntE lf sz n inn out ops seq st data fs ls lst k=1:=by unfold cntE;rw [if_neg oaz,if_pos h2]
theorem pa (h:eD lf sz n inn out ops seq st=true)(h2:¬(k<0∨(seq.length:Int)≤k))(h3:yZ data fs ls sz n.toNat st lst=false):cntE lf sz n inn out ops seq st data fs ls lst k=220:=by unfold cntE;rw [if_neg oaz,if_neg h2,if_pos h3]
theorem Ek (h:eD lf sz n inn out ops seq st=true)(h2:¬(k<0∨(seq.length:Int)≤k))(h3:yZ data fs ls sz n.toNat st lst=true):cntE lf sz n inn out ops seq st data fs ls lst k=0:=by unfold cntE;rw [if_neg oaz,if_neg h2,if_neg obF]
theorem mj (h:cntE lf sz n inn out ops seq st data fs ls lst k≠0):cntV lf sz n inn out ops seq st data fs ls lst k=[]:=by unfold cntV;rw [if_neg h]
theorem mi (h:cntE lf sz n inn out ops seq st data fs ls lst k=0):cntV lf sz n inn out ops seq st data fs ls lst k=G1 sz inn ops seq st data lst k:=by unfold cntV;rw [if_pos h]
end
structure Lay where
  n:Int
  a:Int
  b:Int
  s0:Int
  s1:Int
  gs:List Int
  us:List Int
  ls:List Int
structure Pln where
  sz:Int
  n:Int
  lf:Bool
  inn:Int
  out:Int
  ops:List Po
  seq:List Int
  st:List Int
structure Pkg where
  ver:Int
  frm:Int
  pl:Pln
def Pln.ok (p:Pln):Bool:=eD p.lf p.sz p.n p.inn p.out p.ops p.seq p.st
def Lay.rest (y:Lay):List Int:=[y.a,y.b,y.s0,y.s1]++y.gs++y.us++y.ls
instance (f:Fl):Decidable f.Ok:=
  decidable_of_iff (1≤f.size∧f.size≤4096∧1≤f.data.length∧f.data.length≤64∧f.wear.length=f.data.length∧f.dead.length=f.data.length∧(∀ i,i<f.data.length→(f.data.getD i []).length=f.size)∧1≤f.limit∧f.limit≤100000∧(∀ i,i<f.data.length→0≤f.wear.getD i 0∧f.wear.getD i 0≤f.limit))
    ⟨fun ⟨a,b,c,d,e,g,h,i,j,k⟩=>⟨a,b,c,d,e,g,h,i,j,k⟩,fun ⟨a,b,c,d,e,g,h,i,j,k⟩=>⟨a,b,c,d,e,g,h,i,j,k⟩⟩
def eT (f:Fl)(y:Lay):Bool:=
  decide f.Ok&&decide (38≤f.size∧1≤y.n∧y.n≤(f.data.length:Int)∧1≤y.gs.length∧y.gs.length≤8∧(∀ x∈y.rest,y.n≤x∧x<(f.data.length:Int))∧y.rest.Nodup)
def nxE (e:Int):Nx:=⟨fo0,false,e⟩
def nxD:Nx:=⟨fo0,true,0⟩
def cj (f:Fl)(y:Lay)(x:Nx)(s:List Int):Nx:=if x.e≠0∨x.done=false then x else aR f y.a y.b s
def dX (f:Fl)(n:Int):List UInt8:=(f.data.take n.toNat).flatten
def Pln.need (p:Pln)(old:List UInt8):Int×Nd:=(dM p.lf p.sz p.n p.inn p.out p.ops p.seq p.st old,eQ p.lf p.sz p.n p.inn p.out p.ops p.seq p.st old)
def sPh (s:List Int):Int:=s.getD 0 0
def sSt (s:List Int):Int:=s.getD 1 0
def sSb (s:List Int):Int:=s.getD 2 0
def sUn (s:List Int):Int:=s.getD 3 0
def sSg (s:List Int):Int:=s.getD 6 0
def dQ (f:Fl)(y:Lay)(s:List Int)(p:Pln):Nx:=
  if (p.need ((dX f y.n).take p.inn.toNat)).1≠0 then nxE (p.need ((dX f y.n).take p.inn.toNat)).1
  else if (p.need ((dX f y.n).take p.inn.toNat)).2.u>(y.us.length:Int) then nxE 191
  else if sSt s≥(p.need ((dX f y.n).take p.inn.toNat)).2.u then aR f y.a y.b ((s.set 0 2).set 1 0)
  else cj f y (aO f (y.us.getD (sSt s).toNat 0) (List.replicate f.size 255)) (s.set 1 (sSt s+1))
def eE (f:Fl)(y:Lay)(s:List Int)(p:Pln):Nx:=
  if sSt s≥(p.st.length:Int) then aR f y.a y.b ((s.set 0 3).set 1 0)
  else cj f y (aO f (y.ls.getD (sSt s).toNat 0) (aV f (p.st.getD (sSt s).toNat 0))) (s.set 1 (sSt s+1))
def sgF (f:Fl)(y:Lay)(s:List Int)(c:List UInt8):Nx:=
  if sSg s≥(y.gs.length:Int) then nxE 220
  else if ((aO f (y.gs.getD (sSg s).toNat 0) c).e=171∨(aO f (y.gs.getD (sSg s).toNat 0) c).e=172)∧sSg s+1<(y.gs.length:Int) then aR f y.a y.b (s.set 6 (sSg s+1))
  else cj f y (aO f (y.gs.getD (sSg s).toNat 0) c) (s.set 2 (sSb s+1))
def plF (f:Fl)(y:Lay)(s:List Int)(t:Int):Nx:=
  if sSg s≥(y.gs.length:Int) then nxE 220 else aO f t (aV f (y.gs.getD (sSg s).toNat 0))
def Pln.cntE (p:Pln)(f:Fl)(y:Lay)(k:Int):Int:=Go.Sl.cntE p.lf p.sz p.n p.inn p.out p.ops p.seq p.st f.data (f.size:Int) y.n y.ls k
def Pln.cntV (p:Pln)(f:Fl)(y:Lay)(k:Int):List UInt8:=Go.Sl.cntV p.lf p.sz p.n p.inn p.out p.ops p.seq p.st f.data (f.size:Int) y.n y.ls k
def dw (f:Fl)(y:Lay)(s:List Int)(p:Pln):Nx:=
  if sSt s≥(p.seq.length:Int) then aR f y.a y.b ((s.set 0 4).set 1 0)
  else if sSb s>2 then nxE 240
  else if sSb s=2 then cj f y (plF f y s (p.seq.getD (sSt s).toNat 0)) ((s.set 1 (sSt s+1)).set 2 0)
  else if p.cntE f y (sSt s)≠0 then nxE (p.cntE f y (sSt s))
  else if sSb s=1 then sgF f y s (p.cntV f y (sSt s))
  else cj f y (towS f y.us (sUn s) (gI (p.seq.getD (sSt s).toNat 0) (aV f (p.seq.getD (sSt s).toNat 0)) (p.cntV f y (sSt s)))) ((s.set 2 1).set 3 (sUn s+((gI (p.seq.getD (sSt s).toNat 0) (aV f (p.seq.getD (sSt s).toNat 0)) (p.cntV f y (sSt s))).length:Int)))
def PN (s:List Int):List Int:=[0,0,0,0,0,1-s.getD 5 0,sSg s,s.getD 8 0,s.getD 8 0]
def mL (f:Fl)(y:Lay)(s:List Int):Fnd:=aW (aI f y.us) (f.size:Int) (sUn s)
def tJ (f:Fl)(y:Lay)(s:List Int):Int:=(((mL f y s).b.getD 0 0).toNat:Int)
def dF (f:Fl)(y:Lay)(s:List Int):Nx:=
  if sUn s=0 then aR f y.a y.b (PN s)
  else if sSb s>1 then nxE 240
  else if (mL f y s).e≠0 then nxE (mL f y s).e
  else if tJ f y s≥y.n then nxE 210
  else if sSb s=1 then cj f y (plF f y s (tJ f y s)) ((s.set 2 0).set 3 (mL f y s).at_)
  else if vR (aV f (tJ f y s)) (mL f y s).b≠0 then nxE (vR (aV f (tJ f y s)) (mL f y s).b)
  else sgF f y s (pW (aV f (tJ f y s)) (mL f y s).b)
def fitE (f:Fl)(y:Lay)(s:List Int)(k:Pkg)(h:Bool):Int:=
  if h=false∨k.ver≠s.getD 7 0 then 240
  else if k.pl.ok=false then 190
  else if k.pl.sz≠(f.size:Int)∨k.pl.n≠y.n∨(k.pl.st.length:Int)>(y.ls.length:Int) then 220
  else 0
def bJ (f:Fl)(y:Lay)(k:Pkg)(h:Bool):Nx:=
  if eT f y=false then nxE 220
  else if (bj f y.a y.b).2.2≠0 then nxE (bj f y.a y.b).2.2
  else if sPh (bj f y.a y.b).1=0∨sPh (bj f y.a y.b).1=4∨sPh (bj f y.a y.b).1=5 then nxD
  else if sPh (bj f y.a y.b).1=6 then dF f y (bj f y.a y.b).1
  else if sPh (bj f y.a y.b).1>6 then nxE 240
  else if fitE f y (bj f y.a y.b).1 k h≠0 then nxE (fitE f y (bj f y.a y.b).1 k h)
  else if sPh (bj f y.a y.b).1=1 then dQ f y (bj f y.a y.b).1 k.pl
  else if sPh (bj f y.a y.b).1=2 then eE f y (bj f y.a y.b).1 k.pl
  else dw f y (bj f y.a y.b).1 k.pl
def mcA (f:Fl)(a:Fa)(y:Lay)(G U V:Option Addr)(gc uc vc:Nat)(l:List Value):List Value:=.int .i64 (f.size:Int)::.slice a.D f.data.length a.cD::.slice a.W f.wear.length a.cW::.int .i64 f.limit::.slice a.E f.dead.length a.cE::.int .i64 y.n::.int .i64 y.a::.int .i64 y.b::.int .i64 y.s0::.int .i64 y.s1::.slice G y.gs.length gc::.slice U y.us.length uc::.slice V y.ls.length vc::l
def mcK (k:Pkg)(A B C:Option Addr)(ac bc cc:Nat)(l:List Value):List Value:=.int .i64 k.ver::.int .i64 k.frm::.int .i64 k.pl.sz::.int .i64 k.pl.n::.bool k.pl.lf::.int .i64 k.pl.inn::.int .i64 k.pl.out::.slice A k.pl.ops.length ac::.slice B k.pl.seq.length bc::.slice C k.pl.st.length cc::l
def di (y:Lay)(G U V:Option Addr)(gc uc vc:Nat):List Value:=[.int .i64 y.n,.int .i64 y.a,.int .i64 y.b,.int .i64 y.s0,.int .i64 y.s1,.slice G y.gs.length gc,.slice U y.us.length uc,.slice V y.ls.length vc]
end Go.Sl
namespace Go.Proofs.YtbpddeiogcgegaaGreat
open Go.Sl
def ti2:Ti:=⟨.int .i64,1,8,.int .i64 0⟩
def ti3:Ti:=⟨.int .i64,1,8,.int .i64 0⟩
def ti4:Ti:=⟨.bool,1,1,.bool false⟩
def ti5:Ti:=⟨.int .u8,1,1,.int .u8 0⟩
def ti6:Ti:=⟨.int .u8,1,1,.int .u8 0⟩
def ti9:Ti:=⟨.string,1,16,.string ByteArray.empty⟩
def Ro:Ti:=ti9
def Rm:Ti:=ti9
def Rl:Ti:=⟨.int .u64,1,8,.int .u64 0⟩
def Rj:Ti:=⟨.pointer 371,1,8,.pointer none⟩
def Ri:Ti:=⟨.pointer 374,1,8,.pointer none⟩
def Rh:Ti:=⟨.pointer 382,1,8,.pointer none⟩
def Rg:Ti:=⟨.interface #[],1,16,.nilIface⟩
def Re:Ti:=⟨.int .i32,1,4,.int .i32 0⟩
def PD:Ti:=⟨.slice 28,1,24,.slice none 0 0⟩
def L6:Ti:=⟨.array 4 5,4,4,.agg #[.int .u8 0,.int .u8 0,.int .u8 0,.int .u8 0]⟩
def PC:Ti:=⟨.slice 5,1,24,.slice none 0 0⟩
def Pz:Ti:=⟨.struct #[⟨ "L",22,0,false, "", "",0⟩,⟨ "W",23,1,false, "", "",24⟩,⟨ "Old",24,5,false, "", "",32⟩],6,56,.agg #[.slice none 0 0,.int .u8 0,.int .u8 0,.int .u8 0,.int .u8 0,.slice none 0 0]⟩
def Py:Ti:=Pz
def Rb:Ti:=⟨.slice 58,1,24,.slice none 0 0⟩
def Px:Ti:=⟨.array 3 5,3,3,.agg #[.int .u8 0,.int .u8 0,.int .u8 0]⟩
def Ra:Ti:=⟨.slice 24,1,24,.slice none 0 0⟩
def P9:Ti:=⟨.slice 3,1,24,.slice none 0 0⟩
def P8:Ti:=⟨.slice 4,1,24,.slice none 0 0⟩
def Pw:Ti:=⟨.struct #[⟨ "Size",3,0,false, "", "",0⟩,⟨ "Data",30,1,false, "", "",8⟩,⟨ "Wear",31,2,false, "", "",32⟩,⟨ "Limit",3,3,false, "", "",56⟩,⟨ "Dead",32,4,false, "", "",64⟩],5,88,.agg #[.int .i64 0,.slice none 0 0,.slice none 0 0,.int .i64 0,.slice none 0 0]⟩
def P7:Ti:=Pw
def P6:Ti:=⟨.array 2 3,2,16,.agg #[.int .i64 0,.int .i64 0]⟩
def Pv:Ti:=⟨.struct #[⟨ "Sectors",3,0,false, "", "",0⟩,⟨ "Journal",35,1,false, "", "",8⟩,⟨ "Settings",35,3,false, "", "",24⟩,⟨ "Stage",31,5,false, "", "",40⟩,⟨ "Undo",31,6,false, "", "",64⟩,⟨ "Stash",31,7,false, "", "",88⟩],8,112,.agg #[.int .i64 0,.int .i64 0,.int .i64 0,.int .i64 0,.int .i64 0,.slice none 0 0,.slice none 0 0,.slice none 0 0]⟩
def P5:Ti:=Pv
def P4:Ti:=⟨.slice 157,1,24,.slice none 0 0⟩
def Pu:Ti:=⟨.struct #[⟨ "Lifted",4,0,false, "", "",0⟩,⟨ "In",3,1,false, "", "",8⟩,⟨ "Out",3,2,false, "", "",16⟩,⟨ "Ops",38,3,false, "", "",24⟩],4,48,.agg #[.bool false,.int .i64 0,.int .i64 0,.slice none 0 0]⟩
def P3:Ti:=Pu
def Pt:Ti:=⟨.struct #[⟨ "Size",3,0,false, "", "",0⟩,⟨ "Sectors",3,1,false, "", "",8⟩,⟨ "Patch",40,2,false, "", "",16⟩,⟨ "Seq",31,6,false, "", "",64⟩,⟨ "Stash",31,7,false, "", "",88⟩],8,112,.agg #[.int .i64 0,.int .i64 0,.bool false,.int .i64 0,.int .i64 0,.slice none 0 0,.slice none 0 0,.slice none 0 0]⟩
def P2:Ti:=Pt
def P1:Ti:=⟨.slice 384,1,24,.slice none 0 0⟩
def Ps:Ti:=⟨.struct #[⟨ "Version",3,0,false, "", "",0⟩,⟨ "From",3,1,false, "", "",8⟩,⟨ "Plan",42,2,false, "", "",16⟩,⟨ "Rules",43,10,false, "", "",128⟩],11,152,.agg #[.int .i64 0,.int .i64 0,.int .i64 0,.int .i64 0,.bool false,.int .i64 0,.int .i64 0,.slice none 0 0,.slice none 0 0,.slice none 0 0,.slice none 0 0]⟩
def P0:Ti:=Ps
def Pq:Ti:=⟨.struct #[⟨ "Pk",45,0,false, "", "",0⟩,⟨ "Is",4,11,false, "", "",152⟩],12,160,.agg #[.int .i64 0,.int .i64 0,.int .i64 0,.int .i64 0,.bool false,.int .i64 0,.int .i64 0,.slice none 0 0,.slice none 0 0,.slice none 0 0,.slice none 0 0,.bool false]⟩
def PZ:Ti:=Pq
def Pn:Ti:=⟨.struct #[⟨ "Stash",3,0,false, "", "",0⟩,⟨ "Undo",3,1,false, "", "",8⟩,⟨ "Ram",3,2,false, "", "",16⟩,⟨ "Erases",3,3,false, "", "",24⟩,⟨ "Ops",3,4,false, "", "",32⟩],5,40,.agg #[.int .i64 0,.int .i64 0,.int .i64 0,.int .i64 0,.int .i64 0]⟩
def PY:Ti:=Pn
def Pm:Ti:=⟨.struct #[⟨ "F",34,0,false, "", "",0⟩,⟨ "L",37,5,false, "", "",88⟩,⟨ "H",47,13,false, "", "",200⟩,⟨ "Old",24,25,false, "", "",360⟩,⟨ "New",24,26,false, "", "",384⟩,⟨ "Need",49,27,false, "", "",408⟩],32,448,.agg #[.int .i64 0,.slice none 0 0,.slice none 0 0,.int .i64 0,.slice none 0 0,.int .i64 0,.int .i64 0,.int .i64 0,.int .i64 0,.int .i64 0,.slice none 0 0,.slice none 0 0,.slice none 0 0,.int .i64 0,.int .i64 0,.int .i64 0,.int .i64 0,.bool false,.int .i64 0,.int .i64 0,.slice none 0 0,.slice none 0 0,.slice none 0 0,.slice none 0 0,.bool false,.slice none 0 0,.slice none 0 0,.int .i64 0,.int .i64 0,.int .i64 0,.int .i64 0,.int .i64 0]⟩
def PX:Ti:=Pm
def PW:Ti:=⟨.int .i64,1,8,.int .i64 0⟩
def Pj:Ti:=⟨.struct #[⟨ "F",34,0,false, "", "",0⟩,⟨ "N",3,5,false, "", "",88⟩,⟨ "E",53,6,false, "", "",96⟩],7,104,.agg #[.int .i64 0,.slice none 0 0,.slice none 0 0,.int .i64 0,.slice none 0 0,.int .i64 0,.int .i64 0]⟩
def PV:Ti:=Pj
def Pi:Ti:=⟨.struct #[⟨ "After",5,0,false, "", "",0⟩,⟨ "Mask",24,1,false, "", "",8⟩],2,32,.agg #[.int .u8 0,.slice none 0 0]⟩
def PU:Ti:=Pi
def Ph:Ti:=⟨.struct #[⟨ "Kind",3,0,false, "", "",0⟩,⟨ "Sector",3,1,false, "", "",8⟩,⟨ "At",3,2,false, "", "",16⟩,⟨ "Data",24,3,false, "", "",24⟩],4,48,.agg #[.int .i64 0,.int .i64 0,.int .i64 0,.slice none 0 0]⟩
def PT:Ti:=Ph
def Pg:Ti:=⟨.struct #[⟨ "X",60,0,false, "", "",0⟩,⟨ "Done",4,4,false, "", "",48⟩,⟨ "E",53,5,false, "", "",56⟩],6,64,.agg #[.int .i64 0,.int .i64 0,.int .i64 0,.slice none 0 0,.bool false,.int .i64 0]⟩
def PS:Ti:=Pg
def Pf:Ti:=⟨.array 9 5,9,9,.agg #[.int .u8 0,.int .u8 0,.int .u8 0,.int .u8 0,.int .u8 0,.int .u8 0,.int .u8 0,.int .u8 0,.int .u8 0]⟩
def Pe:Ti:=⟨.struct #[⟨ "S",69,0,false, "", "",0⟩,⟨ "W",23,9,false, "", "",9⟩],13,13,.agg #[.int .u8 0,.int .u8 0,.int .u8 0,.int .u8 0,.int .u8 0,.int .u8 0,.int .u8 0,.int .u8 0,.int .u8 0,.int .u8 0,.int .u8 0,.int .u8 0,.int .u8 0]⟩
def Pd:Ti:=Pe
def Pb:Ti:=⟨.struct #[⟨ "Phase",3,0,false, "", "",0⟩,⟨ "Step",3,1,false, "", "",8⟩,⟨ "Sub",3,2,false, "", "",16⟩,⟨ "Undo",3,3,false, "", "",24⟩,⟨ "Tries",3,4,false, "", "",32⟩,⟨ "Set",3,5,false, "", "",40⟩,⟨ "Stage",3,6,false, "", "",48⟩,⟨ "Version",3,7,false, "", "",56⟩,⟨ "Last",3,8,false, "", "",64⟩],9,72,.agg #[.int .i64 0,.int .i64 0,.int .i64 0,.int .i64 0,.int .i64 0,.int .i64 0,.int .i64 0,.int .i64 0,.int .i64 0]⟩
def PR:Ti:=Pb
def Pa:Ti:=⟨.struct #[⟨ "Old",24,0,false, "", "",0⟩,⟨ "P",40,1,false, "", "",24⟩,⟨ "Size",3,5,false, "", "",72⟩,⟨ "Sectors",3,6,false, "", "",80⟩],7,88,.agg #[.slice none 0 0,.bool false,.int .i64 0,.int .i64 0,.slice none 0 0,.int .i64 0,.int .i64 0]⟩
def Mv:Ti:=Pa
def Mu:Ti:=⟨.array 3 3,3,24,.agg #[.int .i64 0,.int .i64 0,.int .i64 0]⟩
def HH:Ti:=⟨.struct #[⟨ "S",73,0,false, "", "",0⟩,⟨ "Torn",3,9,false, "", "",72⟩,⟨ "E",53,10,false, "", "",80⟩],11,88,.agg #[.int .i64 0,.int .i64 0,.int .i64 0,.int .i64 0,.int .i64 0,.int .i64 0,.int .i64 0,.int .i64 0,.int .i64 0,.int .i64 0,.int .i64 0]⟩
def Mt:Ti:=HH
def HG:Ti:=⟨.struct #[⟨ "sector",3,0,false, "", "inlay/journal",0⟩,⟨ "other",3,1,false, "", "inlay/journal",8⟩,⟨ "gen",3,2,false, "", "inlay/journal",16⟩,⟨ "s",73,3,false, "", "inlay/journal",24⟩,⟨ "found",4,12,false, "", "inlay/journal",96⟩,⟨ "free",3,13,false, "", "inlay/journal",104⟩,⟨ "places",3,14,false, "", "inlay/journal",112⟩,⟨ "torn",3,15,false, "", "inlay/journal",120⟩],16,128,.agg #[.int .i64 0,.int .i64 0,.int .i64 0,.int .i64 0,.int .i64 0,.int .i64 0,.int .i64 0,.int .i64 0,.int .i64 0,.int .i64 0,.int .i64 0,.int .i64 0,.bool false,.int .i64 0,.int .i64 0,.int .i64 0]⟩
def Ms:Ti:=HG
def HF:Ti:=⟨.struct #[⟨ "e",53,0,false, "", "inlay/install",0⟩],1,8,.agg #[.int .i64 0]⟩
def Mr:Ti:=HF
def Mq:Ti:=⟨.pointer 140,1,8,.pointer none⟩
def HE:Ti:=⟨.struct #[⟨ "f",34,0,false, "", "inlay/install",0⟩,⟨ "l",37,5,false, "", "inlay/install",88⟩,⟨ "s",73,13,false, "", "inlay/install",200⟩,⟨ "pk",45,22,false, "", "inlay/install",272⟩,⟨ "op",60,33,false, "", "inlay/install",424⟩,⟨ "found",4,37,false, "", "inlay/install",472⟩],38,480,.agg #[.int .i64 0,.slice none 0 0,.slice none 0 0,.int .i64 0,.slice none 0 0,.int .i64 0,.int .i64 0,.int .i64 0,.int .i64 0,.int .i64 0,.slice none 0 0,.slice none 0 0,.slice none 0 0,.int .i64 0,.int .i64 0,.int .i64 0,.int .i64 0,.int .i64 0,.int .i64 0,.int .i64 0,.int .i64 0,.int .i64 0,.int .i64 0,.int .i64 0,.int .i64 0,.int .i64 0,.bool false,.int .i64 0,.int .i64 0,.slice none 0 0,.slice none 0 0,.slice none 0 0,.slice none 0 0,.int .i64 0,.int .i64 0,.int .i64 0,.slice none 0 0,.bool false]⟩
def Mp:Ti:=HE
def Mo:Ti:=⟨.map 3 141,1,8,.map none⟩
def HD:Ti:=⟨.struct #[⟨ "Seq",31,0,false, "", "",0⟩,⟨ "Stash",31,1,false, "", "",24⟩,⟨ "E",53,2,false, "", "",48⟩],3,56,.agg #[.slice none 0 0,.slice none 0 0,.int .i64 0]⟩
def Mn:Ti:=HD
def Mm:Ti:=⟨.slice 31,1,24,.slice none 0 0⟩
def uM:Ti:=⟨.struct #[⟨ "Kind",3,0,false, "", "",0⟩,⟨ "From",3,1,false, "", "",8⟩,⟨ "Len",3,2,false, "", "",16⟩,⟨ "B",5,3,false, "", "",24⟩,⟨ "Data",24,4,false, "", "",32⟩],5,56,.agg #[.int .i64 0,.int .i64 0,.int .i64 0,.int .u8 0,.slice none 0 0]⟩
def Ml:Ti:=uM
def Mj:Ti:=⟨.slice 225,1,24,.slice none 0 0⟩
def Mi:Ti:=⟨.slice 232,1,24,.slice none 0 0⟩
def HC:Ti:=⟨.struct #[⟨ "Words",162,0,false, "", "",0⟩,⟨ "Marks",32,1,false, "", "",24⟩,⟨ "Labels",31,2,false, "", "",48⟩],3,72,.agg #[.slice none 0 0,.slice none 0 0,.slice none 0 0]⟩
def Mh:Ti:=HC
def HB:Ti:=⟨.struct #[⟨ "Sector",3,0,false, "", "",0⟩,⟨ "Other",3,1,false, "", "",8⟩,⟨ "Gen",3,2,false, "", "",16⟩,⟨ "S",73,3,false, "", "",24⟩,⟨ "Free",3,12,false, "", "",96⟩,⟨ "Torn",3,13,false, "", "",104⟩,⟨ "Is",4,14,false, "", "",112⟩],15,120,.agg #[.int .i64 0,.int .i64 0,.int .i64 0,.int .i64 0,.int .i64 0,.int .i64 0,.int .i64 0,.int .i64 0,.int .i64 0,.int .i64 0,.int .i64 0,.int .i64 0,.int .i64 0,.int .i64 0,.bool false]⟩
def Mg:Ti:=HB
def Hz:Ti:=⟨.struct #[⟨ "B",24,0,false, "", "",0⟩,⟨ "At",3,1,false, "", "",24⟩,⟨ "E",53,2,false, "", "",32⟩],3,40,.agg #[.slice none 0 0,.int .i64 0,.int .i64 0]⟩
def Mf:Ti:=Hz
def Hy:Ti:=⟨.struct #[⟨ "Sector",3,0,false, "", "",0⟩,⟨ "Old",24,1,false, "", "",8⟩,⟨ "New",24,2,false, "", "",32⟩],3,56,.agg #[.int .i64 0,.slice none 0 0,.slice none 0 0]⟩
def Me:Ti:=Hy
def Hx:Ti:=⟨.struct #[⟨ "At",3,0,false, "", "",0⟩,⟨ "B",24,1,false, "", "",8⟩],2,32,.agg #[.int .i64 0,.slice none 0 0]⟩
def Md:Ti:=Hx
def Mc:Ti:=⟨.array 5 3,5,40,.agg #[.int .i64 0,.int .i64 0,.int .i64 0,.int .i64 0,.int .i64 0]⟩
def Mb:Ti:=⟨.int .u64,1,8,.int .u64 0⟩
def Hw:Ti:=⟨.struct #[⟨ "L",159,0,false, "", "",0⟩,⟨ "In",3,1,false, "", "",24⟩,⟨ "Size",3,2,false, "", "",32⟩],3,40,.agg #[.slice none 0 0,.int .i64 0,.int .i64 0]⟩
def Ma:Ti:=Hw
def L9:Ti:=⟨.slice 223,1,24,.slice none 0 0⟩
def Hv:Ti:=⟨.struct #[⟨ "From",3,0,false, "", "",0⟩,⟨ "To",3,1,false, "", "",8⟩],2,16,.agg #[.int .i64 0,.int .i64 0]⟩
def L8:Ti:=Hv
def Hu:Ti:=⟨.struct #[⟨ "Old",4,0,false, "", "",0⟩,⟨ "At",3,1,false, "", "",8⟩,⟨ "B",5,2,false, "", "",16⟩],3,24,.agg #[.bool false,.int .i64 0,.int .u8 0]⟩
def L7:Ti:=Hu
def Ht:Ti:=⟨.struct #[⟨ "Op",3,0,false, "", "",0⟩,⟨ "A",3,1,false, "", "",8⟩,⟨ "B",3,2,false, "", "",16⟩,⟨ "C",3,3,false, "", "",24⟩,⟨ "N",3,4,false, "", "",32⟩],5,40,.agg #[.int .i64 0,.int .i64 0,.int .i64 0,.int .i64 0,.int .i64 0]⟩
def L5:Ti:=Ht
def L4:Ti:=⟨.int .u32,1,4,.int .u32 0⟩
def L3:Ti:=⟨.int .i64,1,8,.int .i64 0⟩
def L2:Ti:=⟨.int .u64,1,8,.int .u64 0⟩
def L1:Ti:=⟨.pointer 305,1,8,.pointer none⟩
def L0:Ti:=⟨.slice 266,1,24,.slice none 0 0⟩
def LZ:Ti:=⟨.pointer 73,1,8,.pointer none⟩
def LX:Ti:=⟨.pointer 3,1,8,.pointer none⟩
def Hp:Ti:=⟨.struct #[⟨ "value",264,0,false, "", "inlay/journal",0⟩,⟨ "width",3,1,false, "", "inlay/journal",8⟩],2,16,.agg #[.pointer none,.int .i64 0]⟩
def LW:Ti:=Hp
def LV:Ti:=⟨.pointer 269,1,8,.pointer none⟩
def EK:Ti:=⟨.struct #[⟨ "b",24,0,false, "", "inlay/journal",0⟩],1,24,.agg #[.slice none 0 0]⟩
def LU:Ti:=EK
def LS:Ti:=⟨.map 3 3,1,8,.map none⟩
def LR:Ti:=⟨.int .u64,1,8,.int .u64 0⟩
def LO:Ti:=⟨.struct #[],0,0,.agg #[]⟩
def LN:Ti:=⟨.struct #[],0,0,.agg #[]⟩
def LL:Ti:=EK
def LK:Ti:=⟨.pointer 60,1,8,.pointer none⟩
def Ho:Ti:=⟨.struct #[⟨ "b",24,0,false, "", "inlay/saved",0⟩],1,24,.agg #[.slice none 0 0]⟩
def LJ:Ti:=Ho
def Hn:Ti:=⟨.interface #[("inlay/patch.cost",309),("inlay/patch.right",274),("inlay/patch.symbol",342)],1,16,.nilIface⟩
def LI:Ti:=Hn
def LH:Ti:=⟨.pointer 297,1,8,.pointer none⟩
def LG:Ti:=⟨.pointer 312,1,8,.pointer none⟩
def Hm:Ti:=⟨.struct #[],0,0,.agg #[]⟩
def LF:Ti:=⟨.pointer 334,1,8,.pointer none⟩
def Hl:Ti:=⟨.struct #[⟨ "rest",312,0,true, "", "inlay/saved",0⟩,⟨ "last",3,1,false, "", "inlay/saved",24⟩,⟨ "size",3,2,false, "", "inlay/saved",32⟩],3,40,.agg #[.slice none 0 0,.int .i64 0,.int .i64 0]⟩
def LD:Ti:=Hl
def LC:Ti:=uM
def LB:Ti:=uM
def Lz:Ti:=uM
def Lx:Ti:=uM
def Lw:Ti:=⟨.struct #[],0,0,.agg #[]⟩
def Lv:Ti:=⟨.func #[3] #[232] false,1,8,.nilFunc⟩
def Lu:Ti:=⟨.int .u32,1,4,.int .u32 0⟩
def Hk:Ti:=⟨.struct #[⟨ "name",9,0,false, "", "inlay/inst",0⟩,⟨ "registers",3,1,false, "", "inlay/inst",16⟩,⟨ "bits",3,2,false, "", "inlay/inst",24⟩,⟨ "sign",4,3,false, "", "inlay/inst",32⟩,⟨ "target",4,4,false, "", "inlay/inst",33⟩],5,40,.agg #[.string ByteArray.empty,.int .i64 0,.int .i64 0,.bool false,.bool false]⟩
def Lt:Ti:=Hk
def Ls:Ti:=⟨.array 9 362,45,360,.agg #[.string ByteArray.empty,.int .i64 0,.int .i64 0,.bool false,.bool false,.string ByteArray.empty,.int .i64 0,.int .i64 0,.bool false,.bool false,.string ByteArray.empty,.int .i64 0,.int .i64 0,.bool false,.bool false,.string ByteArray.empty,.int .i64 0,.int .i64 0,.bool false,.bool false,.string ByteArray.empty,.int .i64 0,.int .i64 0,.bool false,.bool false,.string ByteArray.empty,.int .i64 0,.int .i64 0,.bool false,.bool false,.string ByteArray.empty,.int .i64 0,.int .i64 0,.bool false,.bool false,.string ByteArray.empty,.int .i64 0,.int .i64 0,.bool false,.bool false,.string ByteArray.empty,.int .i64 0,.int .i64 0,.bool false,.bool false]⟩
def Lr:Ti:=⟨.array 3 264,3,24,.agg #[.pointer none,.pointer none,.pointer none]⟩
def Lq:Ti:=⟨.array 0 16,0,0,.agg #[]⟩
def Lp:Ti:=⟨.int .u8,1,1,.int .u8 0⟩
def Lo:Ti:=⟨.int .u8,1,1,.int .u8 0⟩
def Ln:Ti:=⟨.pointer 5,1,8,.pointer none⟩
def Lm:Ti:=⟨.int .i32,1,4,.int .i32 0⟩
def Ll:Ti:=⟨.int .i32,1,4,.int .i32 0⟩
def Hj:Ti:=⟨.struct #[⟨ "Size_",12,0,false, "", "",0⟩,⟨ "PtrBytes",12,1,false, "", "",8⟩,⟨ "Hash",232,2,false, "", "",16⟩,⟨ "TFlag",375,3,false, "", "",20⟩,⟨ "Align_",5,4,false, "", "",21⟩,⟨ "FieldAlign_",5,5,false, "", "",22⟩,⟨ "Kind_",376,6,false, "", "",23⟩,⟨ "Equal",377,7,false, "", "",24⟩,⟨ "GCData",378,8,false, "", "",32⟩,⟨ "Str",379,9,false, "", "",40⟩,⟨ "PtrToThis",380,10,false, "", "",44⟩],11,48,.agg #[.int .u64 0,.int .u64 0,.int .u32 0,.int .u8 0,.int .u8 0,.int .u8 0,.int .u8 0,.nilFunc,.pointer none,.int .i32 0,.int .i32 0]⟩
def Lk:Ti:=Hj
def Hi:Ti:=⟨.struct #[⟨ "Kind",3,0,false, "", "",0⟩,⟨ "Name",9,1,false, "", "",8⟩,⟨ "To",9,2,false, "", "",24⟩,⟨ "Val",9,3,false, "", "",40⟩],4,56,.agg #[.int .i64 0,.string ByteArray.empty,.string ByteArray.empty,.string ByteArray.empty]⟩
def Lj:Ti:=Hi
theorem tk {P:Program}{t:Nat}{i:Ti}(j)(hu:P.underlying t=some i.desc:=by kernel_rfl)(h1:P.info? t=some j:=by kernel_rfl)(h2:j.size=i.size:=by kernel_rfl)(h3:j.bytes=i.bytes:=by kernel_rfl)(h4:j.zero=some i.zero:=by kernel_rfl):TiOk P t i:=⟨hu,j,h1,h2,h3,h4⟩
def tab:List (Nat×Ti):=[(2,ti2),(3,ti3),(4,ti4),(5,ti5),(6,ti6),(9,ti9),(10,Ro),(11,Rm),(12,Rl),(15,Rj),(16,Ri),(17,Rh),(20,Rg),(21,Re),(22,PD),(23,L6),(24,PC),(25,Pz),(26,Py),(27,Rb),(28,Px),(30,Ra),(31,P9),(32,P8),(33,Pw),(34,P7),(35,P6),(36,Pv),(37,P5),(38,P4),(39,Pu),(40,P3),(41,Pt),(42,P2),(43,P1),(44,Ps),(45,P0),(46,Pq),(47,PZ),(48,Pn),(49,PY),(50,Pm),(51,PX),(53,PW),(54,Pj),(55,PV),(57,Pi),(58,PU),(59,Ph),(60,PT),(61,Pg),(62,PS),(69,Pf),(70,Pe),(71,Pd),(72,Pb),(73,PR),(99,Pa),(100,Mv),(104,Mu),(107,HH),(108,Mt),(127,HG),(128,Ms),(135,HF),(136,Mr),(138,Mq),(139,HE),(140,Mp),(143,Mo),(150,HD),(151,Mn),(153,Mm),(156,uM),(157,Ml),(159,Mj),(162,Mi),(163,HC),(164,Mh),(170,HB),(171,Mg),(174,Hz),(175,Mf),(183,Hy),(184,Me),(186,Hx),(187,Md),(189,Mc),(196,Mb),(211,Hw),(212,Ma),(220,L9),(222,Hv),(223,L8),(224,Hu),(225,L7),(229,Ht),(230,L5),(232,L4),(246,L3),(256,L2),(258,L1),(261,L0),(263,LZ),(264,LX),(265,Hp),(266,LW),(267,LV),(268,EK),(269,LU),(286,LS),(297,LR),(302,LO),(303,LN),(305,LL),(310,LK),(311,Ho),(312,LJ),(315,Hn),(316,LI),(319,LH),(330,LG),(331,Hm),(332,LF),(333,Hl),(334,LD),(337,LC),(338,LB),(339,Lz),(340,Lx),(341,Lw),(351,Lv),(360,Lu),(361,Hk),(362,Lt),(363,Ls),(367,Lr),(372,Lq),(375,Lp),(376,Lo),(378,Ln),(379,Lm),(380,Ll),(381,Hj),(382,Lk),(383,Hi),(384,Lj)]
theorem HJ:∀ t i,au t tab=some i→TiOk Tryz.prog t i:=by
 refine aa (tk Tryz.t2) ?_;refine aa (tk Tryz.t3) ?_;refine aa (tk Tryz.t4) ?_;refine aa (tk Tryz.t5) ?_;refine aa (tk Tryz.t6) ?_;refine aa (tk Tryz.t9) ?_;refine aa (tk Tryz.t10) ?_;refine aa (tk Tryz.t11) ?_;refine aa (tk Tryz.t12) ?_;refine aa (tk Tryz.t15) ?_;refine aa (tk Tryz.t16) ?_;refine aa (tk Tryz.t17) ?_;refine aa (tk Tryz.t20) ?_;refine aa (tk Tryz.t21) ?_;refine aa (tk Tryz.t22) ?_;refine aa (tk Tryz.t23) ?_;refine aa (tk Tryz.t24) ?_;refine aa (tk Tryz.t25) ?_;refine aa (tk Tryz.t26) ?_;refine aa (tk Tryz.t27) ?_;refine aa (tk Tryz.t28) ?_;refine aa (tk Tryz.t30) ?_;refine aa (tk Tryz.t31) ?_;refine aa (tk Tryz.t32) ?_;refine aa (tk Tryz.t33) ?_;refine aa (tk Tryz.t34) ?_;refine aa (tk Tryz.t35) ?_;refine aa (tk Tryz.t36) ?_;refine aa (tk Tryz.t37) ?_;refine aa (tk Tryz.t38) ?_;refine aa (tk Tryz.t39) ?_;refine aa (tk Tryz.t40) ?_;refine aa (tk Tryz.t41) ?_;refine aa (tk Tryz.t42) ?_;refine aa (tk Tryz.t43) ?_;refine aa (tk Tryz.t44) ?_;refine aa (tk Tryz.t45) ?_;refine aa (tk Tryz.t46) ?_;refine aa (tk Tryz.t47) ?_;refine aa (tk Tryz.t48) ?_;refine aa (tk Tryz.t49) ?_;refine aa (tk Tryz.t50) ?_;refine aa (tk Tryz.t51) ?_;refine aa (tk Tryz.t53) ?_;refine aa (tk Tryz.t54) ?_;refine aa (tk Tryz.t55) ?_;refine aa (tk Tryz.t57) ?_;refine aa (tk Tryz.t58) ?_;refine aa (tk Tryz.t59) ?_;refine aa (tk Tryz.t60) ?_;refine aa (tk Tryz.t61) ?_;refine aa (tk Tryz.t62) ?_;refine aa (tk Tryz.t69) ?_;refine aa (tk Tryz.t70) ?_;refine aa (tk Tryz.t71) ?_;refine aa (tk Tryz.t72) ?_;refine aa (tk Tryz.t73) ?_;refine aa (tk Tryz.t99) ?_;refine aa (tk Tryz.t100) ?_;refine aa (tk Tryz.t104) ?_;refine aa (tk Tryz.t107) ?_;refine aa (tk Tryz.t108) ?_;refine aa (tk Tryz.t127) ?_;refine aa (tk Tryz.t128) ?_;refine aa (tk Tryz.t135) ?_;refine aa (tk Tryz.t136) ?_;refine aa (tk Tryz.t138) ?_;refine aa (tk Tryz.t139) ?_;refine aa (tk Tryz.t140) ?_;refine aa (tk Tryz.t143) ?_;refine aa (tk Tryz.t150) ?_;refine aa (tk Tryz.t151) ?_;refine aa (tk Tryz.t153) ?_;refine aa (tk Tryz.t156) ?_;refine aa (tk Tryz.t157) ?_;refine aa (tk Tryz.t159) ?_;refine aa (tk Tryz.t162) ?_;refine aa (tk Tryz.t163) ?_;refine aa (tk Tryz.t164) ?_;refine aa (tk Tryz.t170) ?_;refine aa (tk Tryz.t171) ?_;refine aa (tk Tryz.t174) ?_;refine aa (tk Tryz.t175) ?_;refine aa (tk Tryz.t183) ?_;refine aa (tk Tryz.t184) ?_;refine aa (tk Tryz.t186) ?_;refine aa (tk Tryz.t187) ?_;refine aa (tk Tryz.t189) ?_;refine aa (tk Tryz.t196) ?_;refine aa (tk Tryz.t211) ?_;refine aa (tk Tryz.t212) ?_;refine aa (tk Tryz.t220) ?_;refine aa (tk Tryz.t222) ?_;refine aa (tk Tryz.t223) ?_;refine aa (tk Tryz.t224) ?_;refine aa (tk Tryz.t225) ?_;refine aa (tk Tryz.t229) ?_;refine aa (tk Tryz.t230) ?_;refine aa (tk Tryz.t232) ?_;refine aa (tk Tryz.t246) ?_;refine aa (tk Tryz.t256) ?_;refine aa (tk Tryz.t258) ?_;refine aa (tk Tryz.t261) ?_;refine aa (tk Tryz.t263) ?_;refine aa (tk Tryz.t264) ?_;refine aa (tk Tryz.t265) ?_;refine aa (tk Tryz.t266) ?_;refine aa (tk Tryz.t267) ?_;refine aa (tk Tryz.t268) ?_;refine aa (tk Tryz.t269) ?_;refine aa (tk Tryz.t286) ?_;refine aa (tk Tryz.t297) ?_;refine aa (tk Tryz.t302) ?_;refine aa (tk Tryz.t303) ?_;refine aa (tk Tryz.t305) ?_;refine aa (tk Tryz.t310) ?_;refine aa (tk Tryz.t311) ?_;refine aa (tk Tryz.t312) ?_;refine aa (tk Tryz.t315) ?_;refine aa (tk Tryz.t316) ?_;refine aa (tk Tryz.t319) ?_;refine aa (tk Tryz.t330) ?_;refine aa (tk Tryz.t331) ?_;refine aa (tk Tryz.t332) ?_;refine aa (tk Tryz.t333) ?_;refine aa (tk Tryz.t334) ?_;refine aa (tk Tryz.t337) ?_;refine aa (tk Tryz.t338) ?_;refine aa (tk Tryz.t339) ?_;refine aa (tk Tryz.t340) ?_;refine aa (tk Tryz.t341) ?_;refine aa (tk Tryz.t351) ?_;refine aa (tk Tryz.t360) ?_;refine aa (tk Tryz.t361) ?_;refine aa (tk Tryz.t362) ?_;refine aa (tk Tryz.t363) ?_;refine aa (tk Tryz.t367) ?_;refine aa (tk Tryz.t372) ?_;refine aa (tk Tryz.t375) ?_;refine aa (tk Tryz.t376) ?_;refine aa (tk Tryz.t378) ?_;refine aa (tk Tryz.t379) ?_;refine aa (tk Tryz.t380) ?_;refine aa (tk Tryz.t381) ?_;refine aa (tk Tryz.t382) ?_;refine aa (tk Tryz.t383) ?_;refine aa (tk Tryz.t384) ?_
 exact uN
noncomputable def X:Cx:=⟨Tryz.prog,tab,HJ,by kernel_rfl⟩
end Go.Proofs.YtbpddeiogcgegaaGreat
