/-
  Part of a proof.
-/
import Derived.Test.YtbpddeiogcgegaaGreatYIe
set_option maxHeartbeats 0
set_option maxRecDepth 4000
set_option linter.all false
namespace Go.Sl
structure PlnFit (f:Fl)(y:Lay)(p:Pln):Prop where
  ok:p.ok=true
  sz:p.sz=(f.size:Int)
  n:p.n=y.n
  st:p.st.length≤y.ls.length
theorem PlnFit.val {f:Fl}{y:Lay}{p:Pln}(h:PlnFit f y p):cU p.inn p.out p.ops=0∧p.lf=false∧lZ p.sz p.n p.inn p.out=true∧tH p.seq=NI (aI (ah p.ops) p.inn p.sz.toNat p.n.toNat)∧stB (NI (aI (ah p.ops) p.inn p.sz.toNat p.n.toNat)) p.st=true∧plB (ah p.ops) p.inn p.sz.toNat p.n.toNat p.seq p.st=true:=fm.1 h.ok
theorem PlnFit.inn {f:Fl}{y:Lay}{p:Pln}(h:PlnFit f y p):0≤p.inn∧p.inn≤(f.size:Int)*y.n:=by
 have h1:=h.val;have h2:=fD h1.1;have h3:=(dt.1 h1.2.2.1).2.2.2.2.1;rw [h.sz,h.n] at h3;exact ⟨h2.1,h3⟩
theorem PlnFit.seqs {f:Fl}{y:Lay}{p:Pln}(h:PlnFit f y p){i:Nat}(hi:i<p.seq.length):0≤p.seq.getD i 0∧p.seq.getD i 0<y.n:=by
 have h1:=h.val;have hm:p.seq.getD i 0∈p.seq:=by
  rw [List.getD_eq_getElem?_getD,List.getElem?_eq_getElem hi]
  exact List.getElem_mem hi
 have h2:=(eH p.seq).mem_iff.2 hm;rw [h1.2.2.2.1] at h2;obtain ⟨t,ht,e⟩:=List.mem_map.1 h2;have h3:=(cL.1 ht).1;have hn:=(dt.1 h1.2.2.1).2.2.1;rw [h.n] at h3 hn;rw [← e]
 omega
theorem PlnFit.sts {f:Fl}{y:Lay}{p:Pln}(h:PlnFit f y p){i:Nat}(hi:i<p.st.length):0≤p.st.getD i 0∧p.st.getD i 0<y.n:=by
 have h1:=h.val;obtain ⟨t,e,ht⟩:=(yZ h1.2.2.2.2.1).2 i hi;have h3:=(cL.1 ht).1;have hn:=(dt.1 h1.2.2.1).2.2.1;rw [h.n] at h3 hn;rw [e]
 omega
theorem PlnFit.cnt {f:Fl}{y:Lay}{p:Pln}(h:PlnFit f y p){k:Int}(hk:p.cntE f y k=0):(p.cntV f y k).length=f.size:=by
 unfold Pln.cntV
 unfold Pln.cntE at hk;rw [n7 hk]
 unfold Gz;rw [bU,h.sz]
 exact Int.toNat_natCast _
def flC (b:List UInt8)(S n t:Nat):List UInt8:=if t<n then ctF b t S else ctF [] t S
def flD (b:List UInt8)(S n k:Nat):List (List UInt8):=(List.range k).map (flC b S n)
theorem ef (b:List UInt8)(S n t:Nat):(flC b S n t).length=S:=by unfold flC;split<;>exact bU _ _ _
theorem di (b:List UInt8)(S n k:Nat):(flD b S n k).length=k:=by simp [flD]
theorem EO (b:List UInt8)(S n k:Nat):flD b S n (k+1)=flD b S n k++[flC b S n k]:=by simp [flD,List.range_succ]
theorem flD_get {b:List UInt8}{S n k t:Nat}(h:t<k):(flD b S n k).getD t []=flC b S n t:=ai h _
def upI (a c:Nat):List Int:=(List.range c).map fun (i:Nat)=>((a+i:Nat):Int)
theorem dE (a c:Nat):(upI a c).length=c:=by simp [upI]
theorem m4 (a c:Nat):upI a (c+1)=upI a c++[((a+c:Nat):Int)]:=by simp [upI,List.range_succ]
section
variable {X:Cx}{β:Base}{Γ:Env}{R H:List Pr}
end
def Sr:List Po:=[⟨1,2,2,0⟩,⟨1,0,2,0⟩]
def hP:Pp:=⟨2,2,false,4,4,Sr,[0,1],[0]⟩
theorem sx {l:List Nat}{i:Nat}(h:i<l.length):l.getD i 0∈l:=by
 exact Zm 0xe10f540f
theorem vv {l:List Nat}(h:l.Pairwise (· < ·)){i k:Nat}(hik:i<k)(hk:k<l.length):l.getD i 0<l.getD k 0:=by
 rw [List.getD_eq_getElem?_getD,List.getD_eq_getElem?_getD,List.getElem?_eq_getElem hk,List.getElem?_eq_getElem oe]
 exact List.pairwise_iff_getElem.1 h i k oe hk hik
section
variable {l:List Sy}{inn:Int}{S n:Nat}
def yq (l:List Sy)(inn:Int)(S n:Nat):List (List Int):=lL (aI l inn S n) (bV l inn S n n) (aI l inn S n).length
def mkQ (l:List Sy)(inn:Int)(S n:Nat):List Nat:=jU (aI l inn S n) (vN (yq l inn S n))
def mkH (l:List Sy)(inn:Int)(S n:Nat):List Nat:=jU (aI l inn S n) (vO (yq l inn S n))
theorem Px {i k:Nat}(hi:i<(aI l inn S n).length)(hk:k<(aI l inn S n).length):rdP (yq l inn S n) i k=iH l inn S ((aI l inn S n).getD i 0) ((aI l inn S n).getD k 0):=by
 unfold rdP yq lL;rw [ai hi,gk,Bool.eq_iff_iff,List.contains_iff_mem]
 unfold MF;rw [List.mem_filter,List.mem_range,nD (wT hi).1 (wT hk).1];exact ⟨fun h=>h.2,fun h=>⟨hk,h⟩⟩
theorem mB (h16:(aI l inn S n).length≤16):∃ s,vO (yq l inn S n)=mem s (aI l inn S n).length∧(∀ t,t<(aI l inn S n).length→((vO (yq l inn S n)).contains t=s.testBit t))∧vN (yq l inn S n)=frs (aI l inn S n).length (rdP (yq l inn S n)) s.testBit (aI l inn S n).length∧(vN (yq l inn S n)).length=(aI l inn S n).length:=by
 have hlen:(yq l inn S n).length=(aI l inn S n).length:=dy _ _ _;obtain ⟨s,h1,h2,h3,h4,_⟩:=J0 (ls:=yq l inn S n) GH (by rw [hlen];exact h16);rw [hlen] at h1 h3 h4;have hb:2^(aI l inn S n).length≤2^16:=Nat.pow_le_pow_right ob h16;have h16':(2:Nat)^16=65536:=ob;refine ⟨s,by rw [h2,Ba oe h1],fun t ht=>?_,h3,by rw [h3];exact jX.1 h4⟩;rw [h2,ug oe]
theorem AU (h16:(aI l inn S n).length≤16):(mkQ l inn S n).length=(aI l inn S n).length:=by
 obtain ⟨s,_,_,_,h⟩:=mB h16
 unfold mkQ;rw [jT,h]
theorem ud (h16:(aI l inn S n).length≤16){t:Nat}:t∈mkQ l inn S n↔t∈aI l inn S n:=by
 obtain ⟨s,_,_,h3,h⟩:=mB h16
 unfold mkQ jU;rw [List.mem_map]
 constructor
 ·rintro ⟨i,hi,rfl⟩;rw [h3] at hi
  exact sx (iU _ i hi)
 intro ht;obtain ⟨i,hi,rfl⟩:=List.getElem_of_mem ht;refine ⟨i,?_,by rw [List.getD_eq_getElem?_getD,List.getElem?_eq_getElem hi];rfl⟩;rw [h3] at h ⊢
 exact wy (kX _) (iU _) h hi
theorem H3 (h16:(aI l inn S n).length≤16):∀ t∈mkH l inn S n,t∈aI l inn S n:=by
 obtain ⟨s,h1,_⟩:=mB h16
 unfold mkH jU;rw [h1];intro t ht;obtain ⟨i,hi,rfl⟩:=List.mem_map.1 ht
 unfold mem at hi
 exact sx (List.mem_range.1 (List.mem_filter.1 hi).1)
theorem Et (h16:(aI l inn S n).length≤16):(mkH l inn S n).Pairwise (· < ·):=by
 obtain ⟨s,h1,_⟩:=mB h16
 unfold mkH jU;rw [h1,List.pairwise_map];refine List.Pairwise.imp_of_mem (fun {a b} ha hb hab=>?_) (we s _)
 unfold mem at hb
 exact vv (fF l inn S n) hab (List.mem_range.1 (List.mem_filter.1 hb).1)
theorem H4 (h16:(aI l inn S n).length≤16):(mkH l inn S n).length≤(aI l inn S n).length:=by
 obtain ⟨s,h1,_⟩:=mB h16
 unfold mkH;rw [jT,h1]
 exact uf _ _
theorem HY (h16:(aI l inn S n).length≤16):(mkQ l inn S n).Pairwise fun x y=>x∈mkH l inn S n∨iH l inn S y x=false:=by
  obtain ⟨s,h1,h2,h3,h⟩:=mB h16
  unfold mkQ jU
  rw [List.pairwise_map,h3]
  refine List.Pairwise.imp_of_mem (fun {a b} ha hb hab=>?_) (wA (n:=(aI l inn S n).length) (p:=rdP (yq l inn S n)) (st:=s.testBit) _).1
  have ha':=iU _ _ ha
  have hb':=iU _ _ hb
  rcases hab with g|g
  · refine .inl ?_
    unfold mkH jU
    exact List.mem_map.2 ⟨a,List.contains_iff_mem.1 (by rw [h2 a ha'];exact g),rfl⟩
  · exact .inr (by rw [← Px hb' ha'];exact g)
theorem GJ {l:List Nat}{t:Nat}:((t:Nat):Int)∈NI l↔t∈l:=by
 rw [← List.contains_iff_mem,gk,List.contains_iff_mem]
theorem xg (t:Nat):∀ l:List Nat,(NI l).idxOf (t:Int)=l.idxOf t
  |[]=>rfl
  |a::l=>by
    show ((a:Int)::NI l).idxOf (t:Int)=_
    rw [List.idxOf_cons,List.idxOf_cons,xg t l,show ((a:Int)==(t:Int))=(a==t) by rw [Bool.eq_iff_iff,beq_iff_eq,beq_iff_eq];omega]
theorem GK (l:List Nat)(t:Nat):fe (NI l) (t:Int)=if t∈l then ((l.idxOf t:Nat):Int) else -1:=by
 unfold fe;rw [gk,xg]
 by_cases h:t∈l
 ·rw [if_pos (List.contains_iff_mem.2 h),if_pos h]
 rw [if_neg (fun g=>h (List.contains_iff_mem.1 g)),if_neg h]
theorem Ka (h16:(aI l inn S n).length≤16):stB (NI (aI l inn S n)) (NI (mkH l inn S n))=true:=by
 refine fG fun i hi=>?_
 rw [bb] at hi;have hg:=iE hi;have hc:(NI (aI l inn S n)).contains ((NI (mkH l inn S n)).getD i 0)=true:=by
  rw [hg,gk,List.contains_iff_mem]
  exact H3 h16 _ (List.getElem_mem hi)
 by_cases h0:0<i
 ·refine nf hc ?_;have:=vv (Et h16) (show i-1<i by omega) hi;have e1:=iE (l:=mkH l inn S n) (i:=i-1) oe;rw [List.getD_eq_getElem?_getD,List.getD_eq_getElem?_getD,List.getElem?_eq_getElem hi,List.getElem?_eq_getElem oe] at this;rw [e1,hg]
  simp only [Option.getD_some] at this
  omega
 exact ng hc h0
theorem Kb (h16:(aI l inn S n).length≤16):plB l inn S n (NI (mkQ l inn S n)) (NI (mkH l inn S n))=true:=by
 refine fG fun u hu=>fG fun t ht=>?_
 cases hr:iH l inn S u t with
 |false=>rfl
 |true=>
  have h1:=nE hr;have hum:u∈mkQ l inn S n:=(ud h16).2 (cL.2 ⟨hu,h1.1⟩);have htm:t∈mkQ l inn S n:=(ud h16).2 (cL.2 ⟨ht,h1.2⟩);rw [Bool.not_true,Bool.false_or]
  by_cases hs:t∈mkH l inn S n
  ·exact nQ (by rw [gk];exact List.contains_iff_mem.2 hs)
  refine nP fun hlt=>?_
  rw [GK,GK,if_pos hum,if_pos htm] at hlt;have hul:=List.idxOf_lt_length_iff.2 hum;have htl:=List.idxOf_lt_length_iff.2 htm;have:=List.pairwise_iff_getElem.1 (HY h16) _ _ htl hul oe;rw [List.getElem_idxOf,List.getElem_idxOf,hr] at this
  rcases this with g|g
  ·exact hs g
  cases g
end
section
variable {lf:Bool}{inn out sz n:Int}{ops:List Po}{ol:Nat}
theorem Gm (h:mkE lf inn out sz n ops ol=0):cU inn out ops=0∧lf=false∧lZ sz n inn out=true∧(ol:Int)=inn∧(aI (ah ops) inn sz.toNat n.toNat).length≤16:=by
 unfold mkE at h
 split at h
 ·omega
 rename_i h1
 split at h
 ·omega
 rename_i h2
 split at h
 ·omega
 rename_i h3
 split at h
 ·omega
 rename_i h4
 split at h
 ·omega
 rename_i h5;refine ⟨by omega,by simpa using h2,by simpa using h3,by omega,by omega⟩
theorem Gl (h:mkE lf inn out sz n ops ol=0):mkP lf inn out sz n ops ol=⟨sz,n,lf,inn,out,ops,NI (mkQ (ah ops) inn sz.toNat n.toNat),NI (mkH (ah ops) inn sz.toNat n.toNat)⟩:=Gk h
theorem J9 (h:mkE lf inn out sz n ops ol=0):fM lf sz n inn out ops (NI (mkQ (ah ops) inn sz.toNat n.toNat)) (NI (mkH (ah ops) inn sz.toNat n.toNat))=true:=by
 obtain ⟨h1,h2,h3,h4,h5⟩:=Gm h;refine fm.2 ⟨h1,h2,h3,(kr (fF _ _ _ _)).2 ⟨by rw [bb,AU h5],fun t ht=>GJ.2 ((ud h5).2 ht)⟩,Ka h5,Kb h5⟩
theorem HZ:(mkP lf inn out sz n ops ol).ops.length≤ops.length∧(mkP lf inn out sz n ops ol).q.length≤16∧(mkP lf inn out sz n ops ol).h.length≤16:=by
 by_cases h:mkE lf inn out sz n ops ol=0
 ·have h5:=(Gm h).2.2.2.2;rw [Gl h];refine ⟨Nat.le_refl _,?_,?_⟩
  ·rw [bb,AU h5]
   exact h5
  rw [bb]
  exact Nat.le_trans (H4 h5) h5
 rw [AV h];exact ⟨Nat.zero_le _,by decide,by decide⟩
end
section
variable {FD:List (List UInt8)}{p S:Nat}{H:List Int}
end
theorem KB {x y:List UInt8}{t S:Nat}(hl:x.length=y.length)(h:∀ j,j<S→t*S+j<x.length→x.getD (t*S+j) 0=y.getD (t*S+j) 0):ctF x t S=ctF y t S:=by
 unfold ctF ctK;refine List.map_congr_left fun j hj=>?_
 apply Y 0x750f;intro hj
 unfold ctB;rw [hl]
 split
 ·rename_i g
  exact h j hj oe
 rfl
theorem tL {old:List UInt8}{l:List Sy}{i:Nat}(h:i<l.length):(a7 old l).getD i 0=yl old (l.getD i Sy.zero):=DO h
section
variable (a z:UInt8)(l:List T3)(b:List UInt8)
end
section
variable {f:Fl}{y:Lay}{p:Pln}
def Pln.sy (p:Pln):List Sy:=ah p.ops
def Pln.new (p:Pln)(old:List UInt8):List UInt8:=a7 old p.sy
theorem PlnFit.sz1 (h:PlnFit f y p):1≤p.sz.toNat∧1≤p.n∧p.inn≤p.sz*p.n∧p.out≤p.sz*p.n∧p.n≤64:=by
 have:=dt.1 h.val.2.2.1
 omega
theorem PlnFit.perm (h:PlnFit f y p):p.seq.Perm (NI (aI p.sy p.inn p.sz.toNat p.n.toNat)):=by
 have h1:=h.val.2.2.2.1;have h2:=eH p.seq;rw [h1] at h2
 exact h2.symm
theorem PlnFit.nodup (h:PlnFit f y p):p.seq.Nodup:=by
 rw [h.perm.nodup_iff]
 unfold NI;apply Y 0x551f
 exact (List.nodup_iff_pairwise_ne.1 (x5 _ _ _ _)).imp fun h=>by omega
theorem PlnFit.mem (h:PlnFit f y p){t:Nat}:(t:Int)∈p.seq↔t<p.n.toNat∧gE p.sy p.inn p.sz.toNat t=true:=by
 rw [h.perm.mem_iff,GJ,cL]
theorem PlnFit.at_ (h:PlnFit f y p){k:Nat}(hk:k<p.seq.length):∃ t:Nat,p.seq.getD k 0=(t:Int)∧t<p.n.toNat∧gE p.sy p.inn p.sz.toNat t=true:=by
 have hm:p.seq.getD k 0∈p.seq:=by
  rw [List.getD_eq_getElem?_getD,List.getElem?_eq_getElem hk]
  exact List.getElem_mem hk
 have h2:=h.perm.mem_iff.1 hm;obtain ⟨t,ht,e⟩:=List.mem_map.1 h2;exact ⟨t,e.symm,cL.1 ht⟩
theorem Br {l:List Int}(hn:l.Nodup){k:Nat}(hk:k<l.length):fe l (l.getD k 0)=(k:Int):=by
 unfold fe;rw [if_pos,wq hn hk];rw [List.contains_iff_mem,List.getD_eq_getElem?_getD,List.getElem?_eq_getElem hk]
 exact List.getElem_mem hk
theorem PlnFit.order (h:PlnFit f y p){i k t u:Nat}(hik:i<k)(hk:k<p.seq.length)(ht:p.seq.getD k 0=(t:Int))(hu:p.seq.getD i 0=(u:Int)):(u:Int)∈p.st∨iH p.sy p.inn p.sz.toNat t u=false:=by
 obtain ⟨t',e1,h1,_⟩:=h.at_ hk;obtain ⟨u',e2,h2,_⟩:=h.at_ (show i<p.seq.length by omega);obtain rfl:t'=t:=oe;obtain rfl:u'=u:=oe;have hp:=List.all_eq_true.1 (List.all_eq_true.1 h.val.2.2.2.2.2 t' (List.mem_range.2 h1)) u' (List.mem_range.2 h2);rw [Bool.or_eq_true] at hp
 rcases hp with hp|hp
 ·right
  simpa [Pln.sy] using hp
 left
 unfold okT at hp;rw [Bool.or_eq_true] at hp
 rcases hp with hp|hp
 ·exact List.contains_iff_mem.1 hp
 have:=of_decide_eq_true hp;rw [← ht,← hu,Br h.nodup hk,Br h.nodup oe] at this
 omega
theorem PlnFit.run (h:PlnFit f y p){old:List UInt8}(ho:(old.length:Int)=p.inn):zB old p.sy:=by
 apply Y 0xdb1f;intro k1 k2 k3 k4 k5 k6;intro i hi hold;apply Y 0xbd0f;intro hat;have:=hat.2.1 hold;rw [ho];exact ⟨hat.1,this⟩
theorem PlnFit.out (h:PlnFit f y p):(p.sy.length:Int)=p.out:=by
 apply Y 0xdb1f;intro k1 k2 k3 k4 k5 k6
 exact j2 _ _ k3 k6
def tK (p:Pln)(old:List UInt8)(k t:Nat):List UInt8:=if (t:Int)∈p.seq.take k then ctF (p.new old) t p.sz.toNat else ctF old t p.sz.toNat
theorem PlnFit.in_ (h:PlnFit f y p){old:List UInt8}(ho:(old.length:Int)=p.inn){D:List (List UInt8)}{k:Nat}(hk:k<p.seq.length)
    (hD:∀ t,t<p.n.toNat→D.getD t []=tK p old k t) (hH:∀ i,i<p.st.length→D.getD (y.ls.getD i 0).toNat []=ctF old (p.st.getD i 0).toNat p.sz.toNat):
    Gz p.sz p.inn p.ops p.seq p.st D y.ls (k:Int)=ctF (p.new old) (p.seq.getD k 0).toNat p.sz.toNat:=by
 obtain ⟨hS,hn1,hcov,_⟩:=h.sz1;obtain ⟨t,ht,htn,htc⟩:=h.at_ hk
 unfold Gz Pln.new;rw [Int.toNat_natCast,ht,Int.toNat_natCast];have hI:old.length=p.inn.toNat:=oe;have hrun:=h.run ho;have hcov':p.inn.toNat≤p.sz.toNat*p.n.toNat:=by
  have:((p.sz.toNat*p.n.toNat:Nat):Int)=p.sz*p.n:=by rw [Int.natCast_mul,Int.toNat_of_nonneg oe,Int.toNat_of_nonneg oe]
  omega
 have horder:=fun (i u:Nat) (hi:i<k) (hu:p.seq.getD i 0=(u:Int))=>h.order hi hk ht hu
 have hcu:=fun (i:Nat) (hi:i<k)=>h.at_ (k:=i) oe
 change ctF (a7 (inL D p.st y.ls p.sz.toNat p.inn.toNat) p.sy) t p.sz.toNat=_
 generalize hSS:p.sz.toNat=S at*
 generalize hsy:p.sy=sy at*;refine KB (by rw [dX,dX]) fun j hj hlt=>?_
 rw [dX] at hlt;rw [tL hlt,tL hlt];have hok:=hrun _ hlt;have hhit:∀ u,rdT (sy.getD (t*S+j) Sy.zero) S=u→(sy.getD (t*S+j) Sy.zero).old=true→Ij sy S t u=true:=by
  intro u hu hold;refine lI (p:=fun j=>decide (t*S+j<sy.length)&&(sy.getD (t*S+j) Sy.zero).old&&decide (rdT (sy.getD (t*S+j) Sy.zero) S=u)) (k:=j) hj ?_;rw [decide_eq_true hlt,hold,decide_eq_true hu]
  rfl
 generalize sy.getD (t*S+j) Sy.zero=s at hok hhit ⊢
 unfold yl
 cases hold:s.old with
 |false=>rfl
 |true=>
  rw [if_pos rfl,if_pos rfl];obtain ⟨hp0,hp1⟩:=hok hold
  congr 1
  generalize hpe:s.at_.toNat=q;have hqI:q<p.inn.toNat:=oe
  unfold inL;rw [ai hqI]
  unfold inB;rw [vm];have hq:=Nat.div_add_mod q S;rw [Nat.mul_comm] at hq;have hm:=Nat.mod_lt q (show 0<S by omega);have hval:∀ u,u=q/S→(ctF old u S).getD (q%S) 0=old.getD q 0:=by
   rintro u rfl;rw [BY hm,hq]
   unfold ctB;rw [if_pos oe]
  have hun:q/S<p.n.toNat:=by
   rw [Nat.div_lt_iff_lt_mul oe,Nat.mul_comm]
   omega
  by_cases hm2:((q/S:Nat):Int)∈p.st
  ·obtain ⟨i,e1,e2,e3⟩:=ib hm2;rw [e1,if_pos oe,Int.toNat_natCast,hH i e2]
   exact hval _ (by rw [e3,Int.toNat_natCast])
  have hneg:=ia.2 hm2;rw [if_neg oe,Int.toNat_natCast,hD _ hun];have hno:¬ ((q/S:Nat):Int)∈p.seq.take k:=by
   intro hin;apply Y 0x2c1f;intro i hi hie;rw [List.length_take] at hi;rw [List.getElem_take] at hie;have hu0:p.seq.getD i 0=((q/S:Nat):Int):=by
    rw [List.getD_eq_getElem?_getD,List.getElem?_eq_getElem oe]
    exact hie
   rcases horder i (q/S) oe hu0 with h1|h1
   ·exact hm2 h1
   obtain ⟨u',e1,_,hc⟩:=hcu i oe;obtain rfl:u'=q/S:=oe;have hne:t≠q/S:=by
    intro e;have:=cK h.nodup i k oe hk;rw [hu0,ht] at this
    omega
   unfold iH at h1;rw [decide_eq_false hne,htc,hc,hhit (q/S) (by unfold rdT;rw [hpe]) hold] at h1
   cases h1
  unfold tK;rw [if_neg hno,hSS]
  exact hval _ rfl
theorem PlnFit.keep (h:PlnFit f y p){old:List UInt8}(ho:(old.length:Int)=p.inn){t:Nat}(ht:t<p.n.toNat)(hno:¬(t:Int)∈p.seq):ctF (p.new old) t p.sz.toNat=ctF old t p.sz.toNat:=by
 obtain ⟨hS,hn1,hcov,_⟩:=h.sz1;have hch:gE p.sy p.inn p.sz.toNat t=false:=by
  cases hc:gE p.sy p.inn p.sz.toNat t with
  |false=>rfl
  |true=>exact absurd (h.mem.2 ⟨ht,hc⟩) hno
 have hrun:=h.run ho
 unfold ctF ctK Pln.new;refine List.map_congr_left fun j hj=>?_
 apply Y 0x750f;intro hj;have hit:(t*p.sz.toNat+j)/p.sz.toNat=t:=(dL oe).2 ⟨by omega,by omega⟩;have h1:=KC oe hch hit;have hok:=hrun (t*p.sz.toNat+j)
 unfold chY at h1
 unfold ctB;rw [dX]
 generalize hi:t*p.sz.toNat+j=i at*
 by_cases hil:i<p.sy.length
 ·rw [if_pos hil,decide_eq_false_iff_not,Classical.not_not] at h1;have h2:=hok hil;rw [h1] at h2;have h3:=h2 rfl
  dsimp only at h3;rw [if_pos hil,if_pos oe,tL hil,h1]
  unfold yl;rw [if_pos rfl]
  dsimp only;rw [Int.toNat_natCast,UInt8.zero_add]
 rw [if_neg hil,decide_eq_false_iff_not] at h1;rw [if_neg hil,if_neg oe]
theorem DC (h:PlnFit f y p){old:List UInt8}(ho:(old.length:Int)=p.inn){t:Nat}(ht:t<p.n.toNat):tK p old p.seq.length t=ctF (p.new old) t p.sz.toNat:=by
 unfold tK;apply Y 0xe4e
 split
 ·rfl
 rename_i hno
 exact (h.keep ho ht hno).symm
theorem ql (old:List UInt8)(t:Nat):tK p old 0 t=ctF old t p.sz.toNat:=by
 unfold tK;rw [List.take_zero,if_neg Ob]
theorem re (_h:PlnFit f y p){old:List UInt8}{k t:Nat}(hk:k<p.seq.length)(hne:(t:Int)≠p.seq.getD k 0):tK p old (k+1) t=tK p old k t:=by
 unfold tK;have:(t:Int)∈p.seq.take (k+1)↔(t:Int)∈p.seq.take k:=by
  apply Y 0x9a2f;exact ⟨fun h=>h.elim id fun e=>absurd e hne,.inl⟩
 simp only [this]
theorem nm (h:PlnFit f y p){old:List UInt8}{k t:Nat}(hk:k<p.seq.length)(he:(t:Int)=p.seq.getD k 0):tK p old (k+1) t=ctF (p.new old) t p.sz.toNat∧tK p old k t=ctF old t p.sz.toNat:=by
 unfold tK;refine ⟨if_pos ?_,if_neg ?_⟩
 ·apply Y 0x9a2f
  exact .inr he
 intro hin;apply Y 0x2c1f;intro i hi hie;rw [List.length_take] at hi;rw [List.getElem_take] at hie;have:=cK h.nodup i k oe hk;rw [← he,List.getD_eq_getElem?_getD,List.getElem?_eq_getElem oe,Option.getD_some] at this
 exact this hie
end
end Go.Sl
