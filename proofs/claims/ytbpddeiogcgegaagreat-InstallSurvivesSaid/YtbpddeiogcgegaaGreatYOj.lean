/-
  Part of a proof.
-/
import Derived.KernelRfl
import Derived.OrdersIn
import Derived.Test.YtbpddeiogcgegaaGreatYOa
import Derived.Test.YtbpddeiogcgegaaGreatYSlR
set_option maxHeartbeats 0
set_option maxRecDepth 4000
set_option linter.all false
namespace Go.Sl
section
variable {n k:Nat}{p p':Nat→Nat→Bool}{st st':Nat→Bool}{O out:List Nat}{t:Nat}
theorem kP:tZ n p st out t=true↔out.contains t=false∧(st t=true∨∀ u,u<n→p u t=true→out.contains u=true):=by
 unfold tZ;rw [Bool.and_eq_true,Bool.or_eq_true,Bool.not_eq_true',List.all_eq_true];refine and_congr Iff.rfl (or_congr Iff.rfl ⟨fun h u hu hp=>?_,fun h u hu=>?_⟩)
 ·have:=h u (List.mem_range.2 hu);rw [hp] at this
  exact this
 have:=h u (List.mem_range.1 hu)
 cases hp:p u t with
 |false=>rfl
 |true=>rw [this hp];rfl
theorem kX:∀ k,(frs n p st k).Nodup
  |0=>List.nodup_nil
  |k+1=>by
    have ih:=kX k
    rw [frs]
    split
    · exact ih
    · rename_i t ht
      have:=(kP.1 (List.find?_some ht)).1
      rw [List.nodup_append]
      refine ⟨ih,by simp,fun a ha b hb e=>?_⟩
      obtain rfl:=List.mem_singleton.1 hb
      subst e
      rw [List.contains_iff_mem.2 ha] at this
      cases this
theorem mz:∀ {l s:List Nat},l.Nodup→(∀ x∈l,x∈s)→l.length≤s.length
  |[],_,_,_=>Nat.zero_le _
  |x::l,s,hn,h=>by
    have hx:=h x List.mem_cons_self
    rw [List.nodup_cons] at hn
    have:=mz (l:=l) (s:=s.erase x) hn.2 (fun y hy=>(List.mem_erase_of_ne (fun e=>hn.1 (by rw [← e];exact hy))).2 (h y (List.mem_cons_of_mem _ hy)))
    rw [List.length_erase_of_mem hx] at this
    have:=List.length_pos_of_mem hx
    rw [List.length_cons]
    omega
theorem Gy:∀ (n:Nat) (l:List Nat),(∀ t,t<n→t∈l)→n≤l.length
  |0,_,_=>Nat.zero_le _
  |n+1,l,h=>by
    have hm:=h n (Nat.lt_succ_self n)
    have:=Gy n (l.erase n) (fun t ht=>(List.mem_erase_of_ne oe).2 (h t oe))
    rw [List.length_erase_of_mem hm] at this
    have:=List.length_pos_of_mem hm
    omega
theorem wy {l:List Nat}(hn:l.Nodup)(hm:∀ x∈l,x<n)(hl:l.length=n)(ht:t<n):t∈l:=by
 refine Classical.byContradiction fun hc=>?_
 have:=mz (s:=(List.range n).erase t) hn (fun x hx=>(List.mem_erase_of_ne (fun e=>hc (by rw [← e];exact hx))).2 (List.mem_range.2 (hm x hx)));rw [List.length_erase_of_mem (List.mem_range.2 ht),List.length_range] at this
 omega
def Prg (n:Nat)(p:Nat→Nat→Bool)(st:Nat→Bool):Prop:=∀ O:List Nat,(∃ t,t<n∧O.contains t=false)→∃ t,t<n∧tZ n p st O t=true
theorem wx:ig n p st=true↔Prg n p st:=by
 rw [jX]
 constructor
 ·intro hf O ⟨t,ht,hO⟩;have key:∀ k,(∀ x∈frs n p st k,x∈O)∨∃ t,t<n∧tZ n p st O t=true:=by
   intro k
   induction k with
   |zero=>exact .inl fun x hx=>by cases hx
   |succ k ih=>
    rcases ih with ih|ih
    ·rw [frs]
     split
     ·exact .inl ih
     rename_i s hs;obtain ⟨h1,h2⟩:=kP.1 (List.find?_some hs)
     cases hc:O.contains s with
     |true=>
      refine .inl fun x hx=>?_
      rcases List.mem_append.1 hx with h|h
      ·exact ih x h
      obtain rfl:=List.mem_singleton.1 h
      exact List.contains_iff_mem.1 hc
     |false=>
      refine .inr ⟨s,List.mem_range.1 (List.mem_of_find?_eq_some hs),kP.2 ⟨hc,h2.imp id fun h u hu hp=>?_⟩⟩
      exact List.contains_iff_mem.2 (ih u (List.contains_iff_mem.1 (h u hu hp)))
    exact .inr ih
  rcases key n with h|h
  ·have:=List.contains_iff_mem.2 (h t (wy (kX n) (iU n) hf ht));rw [hO] at this
   cases this
  exact h
 ·intro hp;have key:∀ k,k≤n→(frs n p st k).length=k:=by
   intro k
   induction k with
   |zero=>exact fun _=>rfl
   |succ k ih=>
    intro hk;have h1:=ih oe;have hm:∃ t,t<n∧(frs n p st k).contains t=false:=by
     refine Classical.byContradiction fun hc=>?_
     have:=Gy n (frs n p st k) (fun t ht=>by
      rw [← List.contains_iff_mem]
      cases h:(frs n p st k).contains t with
      |true=>rfl
      |false=>exact absurd ⟨t,ht,h⟩ hc)
     omega
    obtain ⟨t,ht,hx⟩:=hp _ hm;rw [frs]
    split
    ·rename_i hnone;have:=List.find?_eq_none.1 hnone t (List.mem_range.2 ht);rw [hx] at this
     exact absurd rfl this
    rw [List.length_append,h1]
    rfl
  exact key n (Nat.le_refl n)
theorem Prg.all (h:∀ t,t<n→st t=true):Prg n p st:=fun _ ⟨t,ht,hO⟩=>⟨t,ht,kP.2 ⟨hO,.inl (h t ht)⟩⟩
end
theorem sY:∀ a:List Int,n9 a a=0
  |[]=>rfl
  |x::a=>by rw [n9,if_pos (sZ.2 rfl)];exact sY a
theorem lA:∀ a b:List Int,n9 b a= -n9 a b
  |[],[]=>rfl
  |[],_::_=>rfl
  |_::_,[]=>rfl
  |x::a,y::b=>by
    have ih:=lA a b
    rw [n9,n9]
    unfold GE
    by_cases h1:x<y
    · simp [h1,show ¬y<x by omega]
    · by_cases h2:y<x
      · simp [h1,h2]
      · simp [h1,h2,ih]
theorem mN:∀ a b c:List Int,n9 a b≤0→n9 b c≤0→n9 a c≤0
  |[],_,[],_,_=>Int.le_refl _
  |[],_,_::_,_,_=>by show (-1:Int)≤0;omega
  |_::_,[],_,h,_=>absurd h (by show ¬(1:Int)≤0;omega)
  |_::_,_::_,[],_,h=>absurd h (by show ¬(1:Int)≤0;omega)
  |x::a,y::b,z::c,h1,h2=>by
    have ih:=mN a b c
    rw [n9] at h1 h2 ⊢
    unfold GE at h1 h2 ⊢
    by_cases a1:x<y
    · by_cases a2:y<z
      · simp [show x<z by omega]
      · by_cases a3:z<y
        · simp [a2,a3] at h2
        · simp [show x<z by omega]
    · by_cases a1':y<x
      · simp [a1,a1'] at h1
      · obtain rfl:x=y:=oe
        simp at h1
        by_cases a2:x<z
        · simp [a2]
        · by_cases a3:z<x
          · simp [a2,a3] at h2
          · simp [a2,a3] at h2 ⊢
            exact ih h1 h2
section
variable {n k m:Nat}{p:Nat→Nat→Bool}
theorem iy:∀ {m:Nat},bst n p k m=none↔∀ s,s<m→(mem s 64).length=k→ig n p s.testBit=false
  |0=>⟨fun _ s hs=>absurd hs (Nat.not_lt_zero _),fun _=>rfl⟩
  |m+1=>by
    have ih:=iy (m:=m)
    rw [bst]
    constructor
    · intro h
      split at h
      · cases h
      · rename_i hc
        refine bK (ih.1 h) (fun hk=>?_)
        cases hf:ig n p m.testBit with
        |false=>rfl
        |true=>exact absurd ⟨hk,⟨fun b (hb:bst n p k m=some b)=>absurd (h.symm.trans hb) Ob,hf⟩⟩ hc
    · intro h
      rw [if_neg]
      · exact ih.2 (fun s hs=>h s oe)
      · rintro ⟨h1,_,h3⟩
        rw [h m (Nat.lt_succ_self m) h1] at h3
        cases h3
theorem j4 {b:List Nat}:∀ {m:Nat},bst n p k m=some b→(∃ s,s<m∧b=mem s 64∧(mem s 64).length=k∧ig n p s.testBit=true)∧∀ s,s<m→(mem s 64).length=k→ig n p s.testBit=true→n9 (NI b) (NI (mem s 64))≤0
  |0,h=>by cases h
  |m+1,h=>by
    rw [bst] at h
    split at h
    · rename_i hc
      obtain ⟨h1,h2,h3⟩:=hc
      injection h with h
      subst h
      refine ⟨⟨m,Nat.lt_succ_self m,rfl,h1,h3⟩,bK (fun s hs hk hf=>?_) (fun _ _=>by rw [sY];omega)⟩
      cases hb:bst n p k m with
      |none=>
        rw [iy.1 hb s hs hk] at hf
        cases hf
      |some b0=>exact mN _ _ _ (by have:=h2 b0 hb;omega) ((j4 hb).2 s hs hk hf)
    · rename_i hc
      obtain ⟨⟨s,h1,h2,h3,h4⟩,h5⟩:=j4 h
      refine ⟨⟨s,by omega,h2,h3,h4⟩,bK h5 (fun hk hf=>?_)⟩
      refine Classical.byContradiction fun hn=>hc ⟨hk,fun b0 hb0=>?_,hf⟩
      rw [h] at hb0
      injection hb0 with hb0
      subst hb0
      rw [lA]
      omega
theorem dr {g:Nat→Option (List Nat)}:∀ {m:Nat},jJ g m=none↔∀ k,k<m→g k=none
  |0=>⟨fun _ k hk=>absurd hk (Nat.not_lt_zero _),fun _=>rfl⟩
  |m+1=>by
    have ih:=dr (g:=g) (m:=m)
    rw [jJ]
    cases h:jJ g m with
    |some x=>exact ⟨fun q=>(by cases q),fun q=>by rw [ih.2 (fun k hk=>q k oe)] at h;cases h⟩
    |none=>exact ⟨fun q=>bK (ih.1 h) q,fun q=>q m (Nat.lt_succ_self m)⟩
theorem pU {g:Nat→Option (List Nat)}{x:List Nat}:∀ {m:Nat},jJ g m=some x→∃ k,k<m∧g k=some x∧∀ j,j<k→g j=none
  |0,h=>by cases h
  |m+1,h=>by
    rw [jJ] at h
    cases hs:jJ g m with
    |some y=>
      rw [hs] at h
      injection h with h
      subst h
      obtain ⟨k,h1,h2⟩:=pU hs
      exact ⟨k,by omega,h2⟩
    |none=>
      rw [hs] at h
      exact ⟨m,Nat.lt_succ_self m,h,dr.1 hs⟩
theorem mi {g g':Nat→Option (List Nat)}:∀ {m:Nat},(∀ k,k<m→g k=g' k)→jJ g m=jJ g' m
  |0,_=>rfl
  |m+1,h=>by rw [jJ,jJ,mi (fun k hk=>h k oe),h m (Nat.lt_succ_self m)]
end
theorem Ba {n s:Nat}(hn:n≤64)(hs:s<2^n):mem s 64=mem s n:=by
 have:=AZ (m:=s) (t:=n) (fun i hi=>Nat.testBit_lt_two_pow (Nat.lt_of_lt_of_le hs (Nat.pow_le_pow_right ob hi))) (64-n)
 rwa [show n+(64-n)=64 from by omega] at this
theorem ie {n s:Nat}{p:Nat→Nat→Bool}(hs:s<18446744073709551616):nZ n p (mem s 64)=ig n p s.testBit:=by
 unfold nZ ig;rw [kY (fun t=>ug hs)]
section
variable {ls:List (List Int)}
end
section
variable {l:List UInt8}{u t k:Nat}
theorem iE {l:List Nat}{i:Nat}(h:i<l.length):(NI l).getD i 0=((l[i]:Nat):Int):=by simp [NI,h]
theorem Ad {n u:Nat}{p:Nat→Bool}(hp:p u=false):jA n u (NI ((List.range n).filter p))=true:=by
 have hs:List.Pairwise (· < ·) ((List.range n).filter p):=List.Pairwise.filter p List.pairwise_lt_range;rw [List.pairwise_iff_getElem] at hs;refine rL (fun i hi=>?_);rw [bb] at hi;have hm:=List.getElem_mem hi;rw [List.mem_filter,List.mem_range] at hm
 unfold jF;rw [iE hi];rintro (h|h|h|⟨h,h2⟩)
 ·omega
 ·omega
 ·have e:((List.range n).filter p)[i]=u:=oe;rw [e,hp] at hm
  cases hm.2
 rw [iE oe] at h2;have:=hs (i-1) i oe hi oe
 omega
end
section
variable {ls:List (List Int)}{up:Bool}{u t k n:Nat}
end
section
variable {l m:List UInt8}{i b:Nat}
end
theorem wA {n:Nat}{p:Nat→Nat→Bool}{st:Nat→Bool}:∀ q,List.Pairwise (fun x y=>st x=true∨p y x=false) (frs n p st q)∧∀ x∈frs n p st q,st x=true∨∀ u,u<n→p u x=true→u∈frs n p st q
  |0=>⟨List.Pairwise.nil,fun x hx=>by cases hx⟩
  |q+1=>by
    obtain ⟨h1,h2⟩:=wA (n:=n) (p:=p) (st:=st) q
    rw [frs]
    split
    · exact ⟨h1,h2⟩
    · rename_i t ht
      have htn:=List.mem_range.1 (List.mem_of_find?_eq_some ht)
      obtain ⟨h3,h4⟩:=kP.1 (List.find?_some ht)
      have hno:t∉frs n p st q:=fun h=>by rw [List.contains_iff_mem.2 h] at h3;cases h3
      refine ⟨List.pairwise_append.2 ⟨h1,List.pairwise_singleton _ _,fun x hx y hy=>?_⟩,fun x hx=>?_⟩
      · obtain rfl:=List.mem_singleton.1 hy
        rcases h2 x hx with h5|h5
        · exact .inl h5
        · cases hp:p y x with
          |false=>exact .inr rfl
          |true=>exact absurd (h5 y htn hp) hno
      · rcases List.mem_append.1 hx with hx|hx
        · exact (h2 x hx).imp id fun h u hu hp=>List.mem_append_left _ (h u hu hp)
        · obtain rfl:=List.mem_singleton.1 hx
          exact h4.imp id fun h u hu hp=>List.mem_append_left _ (List.contains_iff_mem.1 (h u hu hp))
def chX (l:List Sy)(i:Nat):Bool:=if i<l.length then decide (l.getD i Sy.zero≠⟨true,(i:Int),0⟩) else true
def chL (l:List Sy)(size n k:Nat):List Bool:=(List.range n).map fun t=>(List.range k).any fun i=>decide (i/size=t)&&chX l i
theorem eg (l:List Sy)(size n k:Nat):(chL l size n k).length=n:=by simp [chL]
theorem Fb (l:List Sy)(size n:Nat):chL l size n 0=List.replicate n false:=by
 refine aF (d:=false) (by simp [chL]) (fun i hi=>?_);rw [eg] at hi
 unfold chL;rw [ai hi,bO _ _ _ _ hi]
 rfl
theorem Cj {l:List Sy}{size n k:Nat}(h:chX l k=true):(chL l size n k).set (k/size) true=chL l size n (k+1):=by
 refine aF (d:=false) (by rw [List.length_set,eg,eg]) (fun t ht=>?_);rw [List.length_set,eg] at ht;have e:(chL l size n (k+1)).getD t false=((chL l size n k).getD t false||decide (k/size=t)):=by
  unfold chL;rw [ai ht,ai ht,List.range_succ,List.any_append]
  simp [h]
 rw [e]
 by_cases hq:k/size=t
 ·subst hq;rw [aT (by rw [eg];exact ht)]
  simp
 rw [getD_set_ne hq,decide_eq_false hq,Bool.or_false]
theorem KE {l:List Sy}{size n k:Nat}(h:chX l k=false):chL l size n k=chL l size n (k+1):=by
 unfold chL;refine List.map_congr_left fun t _=>?_
 rw [List.range_succ,List.any_append]
 simp [h]
def rdT (s:Sy)(size:Nat):Nat:=s.at_.toNat/size
def eb (ch:List Bool)(size i:Nat)(s:Sy):Bool:= !s.old||decide (i/size=rdT s size)|| !ch.getD (i/size) false|| !ch.getD (rdT s size) false
theorem GW {x:Po}{size:Int}{i:Nat}(h:bM x size=true)(hi:(i:Int)<x.ln):0≤(pS x i).at_∧((pS x i).old=true→(pS x i).at_<size)∧((pS x i).old=false→(pS x i).at_=0):=by
 unfold pS
 by_cases hk:x.k=1
 ·rw [if_pos hk]
  unfold bM Bk at h;rw [if_pos hk] at h
  simp at h;refine ⟨by show 0≤x.fr+(i:Int);omega,fun _=>by show x.fr+(i:Int)<size;omega,fun h=>by cases h⟩
 rw [if_neg hk];exact ⟨Int.le_refl _,fun h=>(by cases h),fun _=>rfl⟩
theorem GX {size left:Int}{l:List Po}(h:fh size left l=true):∀ s∈ah l,0≤s.at_∧(s.old=true→s.at_<size)∧(s.old=false→s.at_=0):=by
 intro s hs
 simp only [ah,List.mem_flatMap] at hs;obtain ⟨x,hx,hs⟩:=hs;obtain ⟨i,hi,rfl⟩:=List.mem_iff_getElem.1 hx;have hr:=j3 l left h i hi
 simp only [List.getD_eq_getElem?_getD,List.getElem?_eq_getElem hi,Option.getD_some] at hr
 simp only [l5,List.mem_map,List.mem_range] at hs;obtain ⟨j,hj,rfl⟩:=hs
 exact GW hr.2.2 oe
theorem zG {hs:List Hd}{ls:List (List Int)}{s:Nat}{A:Option Addr}{c:Nat}{l:List Int}:(aB hs (J8 ls)).set s (.slice A l.length c)=aB (hs.set s (A,c)) (J8 (ls.set s l)):=by
 refine List.ext_getElem? fun i=>?_
 unfold aB J8
 simp only [List.getElem?_set,List.getElem?_zipWith,List.getElem?_map,List.length_zipWith,List.length_map]
 by_cases hi:s=i
 ·subst hi
  by_cases h1:s<hs.length<;>by_cases h2:s<ls.length<;>simp [h1,h2,bq]<;>omega
 simp [hi]
def rdN (inn out:Int)(S:Nat):Nat:=((max inn out).toNat+S-1)/S
theorem F7 {inn out:Int}{S:Nat}(h0:0≤inn)(h1:0≤out)(hS:1≤S):(max inn out+(S:Int)-1)/(S:Int)=((rdN inn out S:Nat):Int):=by
 unfold rdN;rw [Int.natCast_ediv]
 congr 1
 omega
theorem F6 {inn out:Int}{S i:Nat}(hS:1≤S)(h:(i:Int)<max inn out):i/S<rdN inn out S:=by
 unfold rdN;have h1:i/S+1≤((max inn out).toNat+S-1)/S:=by
  rw [← Nat.add_div_right i hS]
  exact Nat.div_le_div_right oe
 omega
theorem j2 {size:Int}:∀ (l:List Po) (left:Int),0≤left→fh size left l=true→((ah l).length:Int)=left
  |[],left,h0,h=>by
    rw [fh,decide_eq_true_eq] at h
    show (0:Int)=left
    omega
  |x::l,left,h0,h=>by
    rw [fh] at h
    split at h
    · cases h
    · rename_i hb
      have ih:=j2 l (left-x.ln) oe h
      rw [show ah (x::l)=l5 x x.ln.toNat++ah l from rfl,List.length_append,m9]
      omega
theorem GF {l:List Sy}{k:Nat}(h:k<l.length):chX l k=decide (l.getD k Sy.zero≠⟨true,(k:Int),0⟩):=by unfold chX;rw [if_pos h]
theorem KD {l:List Sy}{k:Nat}(h:l.length≤k):chX l k=true:=by unfold chX;rw [if_neg oe]
theorem ve {size left:Int}{l:List Po}(h:fh size left l=true){k:Nat}(hk:k<(ah l).length):0≤((ah l).getD k Sy.zero).at_∧(((ah l).getD k Sy.zero).old=true→((ah l).getD k Sy.zero).at_<size)∧(((ah l).getD k Sy.zero).old=false→((ah l).getD k Sy.zero).at_=0):=by
 refine GX h _ ?_;rw [List.getD_eq_getElem?_getD,List.getElem?_eq_getElem hk,Option.getD_some]
 exact List.getElem_mem hk
section
variable {ch:List Bool}{S n k:Nat}{l:List Sy}
theorem JA {s:Sy}(h:s.old=false):eb ch S k s=true:=by unfold eb;rw [h];rfl
theorem Jz {s:Sy}(h:k/S=rdT s S):eb ch S k s=true:=by unfold eb;rw [decide_eq_true h];simp
theorem Jy {s:Sy}(h:ch.getD (k/S) false=false):eb ch S k s=true:=by unfold eb;rw [h];simp
theorem Jx {s:Sy}(h:ch.getD (rdT s S) false=false):eb ch S k s=true:=by unfold eb;rw [h];simp
theorem G7 {s:Sy}(h1:s.old=true)(h2:¬k/S=rdT s S)(h3:ch.getD (k/S) false=true)(h4:ch.getD (rdT s S) false=true):eb ch S k s=false:=by unfold eb;rw [h1,h3,h4,decide_eq_false h2];rfl
theorem F5 {s:Sy}(h:0≤s.at_):s.at_/(S:Int)=((rdT s S:Nat):Int):=by
 unfold rdT;rw [Int.natCast_ediv]
 congr 1
 omega
theorem JJ {inn out:Int}{s:Sy}(hS:1≤S)(h:0≤s.at_)(h2:s.at_<inn):rdT s S<rdN inn out S:=F6 hS oe
end
theorem JF (n:Nat):List.replicate n (Value.slice none 0 0)=aB (List.replicate n (none,0)) (J8 (List.replicate n [])):=by
 refine List.ext_getElem? fun i=>?_
 simp only [aB,J8,List.map_replicate,List.zipWith_replicate,Nat.min_self]
 rfl
theorem Bd {hs:List Hd}{ls:List (List Int)}{s:Nat}{g g':Hd}{l:List Int}:aw 3 ((hs.set s g).set s g') ((J8 (ls.set s [])).set s (I64 l))=aw 3 (hs.set s g') (J8 (ls.set s l)):=by
 rw [List.set_set]
 congr 1
 simp only [J8,List.map_set,List.set_set]
section
variable {X:Cx}{β:Base}{n:Nat}{ds:List Deferred}{Q:Exit→Act→World→Prop}{Γ:Env}{R H:List Pr}
theorem I8 {c:Code}(e m:Nat)(h:C X β n ds Q c Γ R (H++[aw e (List.replicate m (none,0)) (List.replicate m [])])):C X β n ds Q c Γ R H:=by
 intro a w hf hs;refine h a w hf (hs.snoc (Stp.refl w fun _=>False) (fun _ h _=>h) _ ⟨by simp,fun i g v hg hv=>?_,fun i j g g' hg _ _ k hk=>?_⟩ ?_)
 ·obtain rfl:=(List.mem_replicate.1 (List.mem_of_getElem? hg)).2;obtain rfl:=(List.mem_replicate.1 (List.mem_of_getElem? hv)).2;exact ⟨by simp,.inl ⟨rfl,rfl⟩⟩
 ·obtain rfl:=(List.mem_replicate.1 (List.mem_of_getElem? hg)).2;obtain ⟨a,h1,_⟩:=hk
  cases h1
 rintro k ⟨i,g,hg,a,h1,_⟩;obtain rfl:=(List.mem_replicate.1 (List.mem_of_getElem? hg)).2
 cases h1
theorem yj {x:Code}(j i:Nat){e:Nat}{hs:List Hd}{ls:List (List Int)}(hj:H[j]?=some (aw e hs (J8 ls)))(hi:i<ls.length)(js:List Nat)(hn:(j::js).Nodup)
    (h:C X β n ds Q x Γ R (Own e 1 (hs.getD i (none,0)).1 (ls.getD i []).length (hs.getD i (none,0)).2 (I64 (ls.getD i []))::aw e (hs.set i (none,0)) (J8 (ls.set i []))::Sl.sel H js)):C X β n ds Q x Γ R H:=by
 refine C.takeKid j i hj (by rw [bW];exact hi) js hn ?_;rw [dT,bq,show (J8 ls).set i []=J8 (ls.set i []) by simp [J8,List.map_set,I64]]
 exact h
end
def rdE (lf:Bool)(inn out size:Int)(ops:List Po):Int:=
  if cU inn out ops≠0 then cU inn out ops else if lf=true then 62 else if size<1∨4096<size then 1 else if 64<rdN inn out size.toNat then 2 else 0
def rdC (inn out:Int)(S:Nat)(l:List Sy):List Bool:=chL l S (rdN inn out S) (max inn out).toNat
section
variable {lf:Bool}{inn out size:Int}{ops:List Po}
theorem JN (h:cU inn out ops≠0):rdE lf inn out size ops=cU inn out ops:=by unfold rdE;rw [if_pos h]
theorem JM (h:cU inn out ops=0)(h2:lf=true):rdE lf inn out size ops=62:=by unfold rdE;rw [if_neg (fun g=>g h),if_pos h2]
theorem JL (h:cU inn out ops=0)(h2:lf=false)(h3:size<1∨4096<size):rdE lf inn out size ops=1:=by unfold rdE;rw [if_neg (fun g=>g h),if_neg Qt,if_pos h3]
theorem JK (h:cU inn out ops=0)(h2:lf=false)(h3:1≤size)(h4:size≤4096)(h5:64<rdN inn out size.toNat):rdE lf inn out size ops=2:=by unfold rdE;rw [if_neg (fun g=>g h),if_neg Qt,if_neg oe,if_pos h5]
theorem HC (h:cU inn out ops=0)(h2:lf=false)(h3:1≤size)(h4:size≤4096)(h5:rdN inn out size.toNat≤64):rdE lf inn out size ops=0:=by unfold rdE;rw [if_neg (fun g=>g h),if_neg Qt,if_neg oe,if_neg oe]
end
def EG (t:Int):List Int→List Int
  |[]=>[t]
  |y::ys=>if y<t then y::EG t ys else t::y::ys
theorem Gq {t:Int}:∀ {x:List Int} {k:Nat},k≤x.length→(∀ q,q<k→x.getD q 0<t)→(∀ q,k≤q→q<x.length→t≤x.getD q 0)→x.take k++[t]++x.drop k=EG t x
  |[],0,_,_,_=>rfl
  |y::x,0,_,_,h=>by
    have:=h 0 (Nat.le_refl _) (Nat.succ_pos _)
    have h1:¬y<t:=by
      have e:(y::x).getD 0 0=y:=rfl
      omega
    rw [EG,if_neg h1]
    rfl
  |y::x,k+1,hk,h1,h2=>by
    have h3:y<t:=h1 0 (Nat.succ_pos _)
    rw [EG,if_pos h3,← Gq (x:=x) (k:=k) (Nat.le_of_succ_le_succ hk) (fun q hq=>h1 (q+1) (Nat.succ_lt_succ hq)) (fun q hq hq2=>h2 (q+1) (Nat.succ_le_succ hq) (Nat.succ_lt_succ hq2))]
    rfl
theorem Ic {α:Type}(x:List α)(k:Nat)(t:α):(x.take k++[t]++x.drop k).length=x.length+1:=by
 simp only [List.length_append,List.length_take,List.length_drop,List.length_singleton]
 omega
theorem BO {p:Nat→Bool}{t:Nat}:∀ (m a:Nat),t<a→(List.range' a m).filter (fun i=>p i||decide (t=i))=(List.range' a m).filter p:=by
 intro m a h;refine List.filter_congr fun i hi=>?_
 have:=List.mem_range'_1.1 hi;rw [decide_eq_false oe,Bool.or_false]
theorem Ie {t:Int}{x:List Int}(h:∀ y∈x,t<y):EG t x=t::x:=by
 cases x with
 |nil=>rfl
 |cons y x=>
  have:=h y List.mem_cons_self;rw [EG,if_neg oe]
theorem sb {p:Nat→Bool}{t:Nat}(hp:p t=false):∀ (m a:Nat),a≤t→t<a+m→EG (t:Int) (NI ((List.range' a m).filter p))=NI ((List.range' a m).filter fun i=>p i||decide (t=i))
  |0,a,h1,h2=>by omega
  |m+1,a,h1,h2=>by
    rw [List.range'_succ,List.filter_cons,List.filter_cons]
    by_cases e:t=a
    · subst e
      rw [hp,decide_eq_true rfl,BO m (t+1) oe]
      simp only [Bool.false_or,if_true,Bool.false_eq_true,if_false]
      refine Ie fun y hy=>?_
      simp only [NI,List.mem_map,List.mem_filter] at hy
      obtain ⟨i,⟨hi,_⟩,rfl⟩:=hy
      have:=List.mem_range'_1.1 hi
      omega
    · have ih:=sb hp m (a+1) oe oe
      rw [decide_eq_false e,Bool.or_false]
      cases hpa:p a with
      |true=>
        simp only [if_true]
        show EG (t:Int) ((a:Int)::NI ((List.range' (a+1) m).filter p))=(a:Int)::NI _
        rw [EG,if_pos oe,ih]
      |false=>
        simp only [Bool.false_eq_true,if_false]
        exact ih
def rwP (ch:List Bool)(S:Nat)(l:List Sy)(k u t:Nat):Bool:=(List.range k).any fun i=>decide (i/S=u)&& !eb ch S i (l.getD i Sy.zero)&&decide (rdT (l.getD i Sy.zero) S=t)
def rwR (ch:List Bool)(S n:Nat)(l:List Sy)(k u:Nat):List Nat:=(List.range n).filter (rwP ch S l k u)
def rwM (ch:List Bool)(S n:Nat)(l:List Sy)(k:Nat):List (List Int):=(List.range n).map fun u=>NI (rwR ch S n l k u)
section
variable {ch:List Bool}{S n k u t:Nat}{l:List Sy}
theorem jL:rwP ch S l (k+1) u t=(rwP ch S l k u t||(decide (k/S=u)&& !eb ch S k (l.getD k Sy.zero)&&decide (rdT (l.getD k Sy.zero) S=t))):=by
 unfold rwP;rw [List.range_succ,List.any_append]
 simp
theorem cF (ch:List Bool)(S n:Nat)(l:List Sy)(k:Nat):(rwM ch S n l k).length=n:=by simp [rwM]
theorem gy (h:u<n):(rwM ch S n l k).getD u []=NI (rwR ch S n l k u):=ai h _
theorem Hb (ch:List Bool)(S n:Nat)(l:List Sy)(k u:Nat):(rwR ch S n l k u).length≤n:=by
 have:=List.length_filter_le (rwP ch S l k u) (List.range n)
 rwa [List.length_range] at this
theorem Hi (ch:List Bool)(S n:Nat)(l:List Sy)(k u:Nat):((rwM ch S n l k).getD u []).length≤n:=by
 rcases Nat.lt_or_ge u n with h|h
 ·rw [gy h,bb]
  exact Hb _ _ _ _ _ _
 rw [cM (by rw [cF];exact h)];exact Zm 0xc1e
theorem vr:rwM ch S n l 0=List.replicate n []:=by
 refine aF (d:=[]) (by simp [rwM]) (fun i hi=>?_);rw [cF] at hi;rw [gy hi,bO _ _ _ _ hi];have:rwR ch S n l 0 i=[]:=by
  unfold rwR;rw [List.filter_eq_nil_iff];intro j _
  simp [rwP]
 rw [this]
 rfl
theorem Hg (ch:List Bool)(S n:Nat)(l:List Sy)(k u:Nat):∀ i j,i<j→j<((rwM ch S n l k).getD u []).length→((rwM ch S n l k).getD u []).getD i 0<((rwM ch S n l k).getD u []).getD j 0:=by
 intro i j hij hj
 rcases Nat.lt_or_ge u n with h|h
 ·rw [gy h] at hj ⊢;rw [bb] at hj;have hs:List.Pairwise (· < ·) (rwR ch S n l k u):=List.Pairwise.filter _ List.pairwise_lt_range;rw [List.pairwise_iff_getElem] at hs;rw [iE oe,iE hj];have:=hs i j oe hj hij
  omega
 rw [cM (by rw [cF];exact h)] at hj
 cases hj
theorem F0 {k':Nat}(h:∀ u t,u<n→t<n→rwP ch S l k u t=rwP ch S l k' u t):rwM ch S n l k=rwM ch S n l k':=by
 unfold rwM;refine List.map_congr_left fun u hu=>?_
 unfold rwR;rw [List.filter_congr fun t ht=>h u t (List.mem_range.1 hu) (List.mem_range.1 ht)]
theorem DK (h:eb ch S k (l.getD k Sy.zero)=true):rwM ch S n l (k+1)=rwM ch S n l k:=by
 refine F0 fun u t _ _=>?_
 rw [jL,h]
 simp
theorem zz (hu:u<n)(ht:t<n):((rwM ch S n l k).getD u []).contains (t:Int)=rwP ch S l k u t:=by
 rw [gy hu,gk,Bool.eq_iff_iff,List.contains_iff_mem]
 simp [rwR,ht]
theorem Hj (hu:k/S<n)(ht:rdT (l.getD k Sy.zero) S<n)(h:((rwM ch S n l k).getD (k/S) []).contains (rdT (l.getD k Sy.zero) S:Int)=true):rwM ch S n l (k+1)=rwM ch S n l k:=by
 rw [zz hu ht] at h;refine F0 fun u t _ _=>?_
 rw [jL]
 by_cases e1:k/S=u
 ·by_cases e2:rdT (l.getD k Sy.zero) S=t
  ·subst e1 e2;rw [h]
   rfl
  rw [decide_eq_false e2]
  simp
 rw [decide_eq_false e1]
 simp
theorem Hk {q:Nat}(hu:k/S<n)(ht:rdT (l.getD k Sy.zero) S<n)(h0:eb ch S k (l.getD k Sy.zero)=false)(h:((rwM ch S n l k).getD (k/S) []).contains (rdT (l.getD k Sy.zero) S:Int)=false)
    (hq:q≤((rwM ch S n l k).getD (k/S) []).length) (h1:∀ i,i<q→((rwM ch S n l k).getD (k/S) []).getD i 0<(rdT (l.getD k Sy.zero) S:Int)) (h2:∀ i,q≤i→i<((rwM ch S n l k).getD (k/S) []).length→(rdT (l.getD k Sy.zero) S:Int)≤((rwM ch S n l k).getD (k/S) []).getD i 0):
    rwM ch S n l (k+1)=(rwM ch S n l k).set (k/S) (((rwM ch S n l k).getD (k/S) []).take q++[(rdT (l.getD k Sy.zero) S:Int)]++((rwM ch S n l k).getD (k/S) []).drop q):=by
 rw [Gq hq h1 h2];rw [zz hu ht] at h;refine aF (d:=[]) (by rw [List.length_set,cF,cF]) (fun u hun=>?_);rw [cF] at hun;rw [gy hun]
 by_cases e1:k/S=u
 ·subst e1;rw [aT (by rw [cF];exact hu),gy hu];have:=sb (p:=rwP ch S l k (k/S)) h n 0 (Nat.zero_le _) oe;rw [← List.range_eq_range'] at this
  unfold rwR;rw [this]
  congr 1;refine List.filter_congr fun t _=>?_
  rw [jL,h0,decide_eq_true rfl]
  rfl
 rw [getD_set_ne e1,gy hun]
 unfold rwR
 congr 1;refine List.filter_congr fun t _=>?_
 rw [jL,decide_eq_false e1]
 simp
end
def rdM (lf:Bool)(inn out size:Int)(ops:List Po):List (List Int):=
  if rdE lf inn out size ops=0 then rwM (rdC inn out size.toNat (ah ops)) size.toNat (rdN inn out size.toNat) (ah ops) (ah ops).length else []
section
variable {lf:Bool}{inn out size:Int}{ops:List Po}
theorem bH (h:rdE lf inn out size ops≠0):rdM lf inn out size ops=[]:=by unfold rdM;rw [if_neg h]
theorem Af (h:rdE lf inn out size ops=0):rdM lf inn out size ops=rwM (rdC inn out size.toNat (ah ops)) size.toNat (rdN inn out size.toNat) (ah ops) (ah ops).length:=by unfold rdM;rw [if_pos h]
end
theorem vP {l:List Po}{i j:Nat}(hi:i<l.length)(hj:j<5):(cv l)[i*5+j]?=(l.getD i Po.zero).cells[j]?:=by
 rw [← nN l i hi,List.getElem?_take,if_pos hj,List.getElem?_drop]
theorem ft {l:List Sy}{i j:Nat}(hi:i<l.length)(hj:j<3):(dh l)[i*3+j]?=(l.getD i Sy.zero).cells[j]?:=by
 rw [← eG l i hi,List.getElem?_take,if_pos hj,List.getElem?_drop]
theorem lI {n k:Nat}{p:Nat→Bool}(hk:k<n)(h:p k=true):(List.range n).any p=true:=List.any_eq_true.2 ⟨k,List.mem_range.2 hk,h⟩
theorem ti {n:Nat}{p:Nat→Bool}(h:∀ k,k<n→p k=false):(List.range n).any p=false:=by
 rw [List.any_eq_false];intro k hk;rw [h k (List.mem_range.1 hk)]
 decide
def chY (l:List Sy)(inn:Int)(i:Nat):Bool:=if i<l.length then decide (l.getD i Sy.zero≠⟨true,(i:Int),0⟩) else decide ((i:Int)<inn)
def gE (l:List Sy)(inn:Int)(S t:Nat):Bool:=(List.range S).any fun j=>chY l inn (t*S+j)
def Ij (l:List Sy)(S u t:Nat):Bool:=(List.range S).any fun j=>decide (u*S+j<l.length)&&(l.getD (u*S+j) Sy.zero).old&&decide (rdT (l.getD (u*S+j) Sy.zero) S=t)
def iH (l:List Sy)(inn:Int)(S u t:Nat):Bool:= !decide (u=t)&&gE l inn S u&&gE l inn S t&&Ij l S u t
def kH (l:List Sy)(inn:Int)(S u t:Nat):List Nat:=(List.range t).filter (iH l inn S u)
def bV (l:List Sy)(inn:Int)(S n k:Nat):List (List Int):=(List.range k).map fun u=>NI (kH l inn S u n)
section
variable {l:List Sy}{inn out:Int}{S n k u t:Nat}
theorem D9 (h:iH l inn S u t=true):kH l inn S u (t+1)=kH l inn S u t++[t]:=oam
theorem HB (h:iH l inn S u t=false):kH l inn S u (t+1)=kH l inn S u t:=oam
theorem jN (l:List Sy)(inn:Int)(S u t:Nat):(kH l inn S u t).length≤t:=by
 have:=List.length_filter_le (iH l inn S u) (List.range t)
 rwa [List.length_range] at this
theorem bY (l:List Sy)(inn:Int)(S n k:Nat):(bV l inn S n k).length=k:=by simp [bV]
theorem kI (l:List Sy)(inn:Int)(S n k:Nat):bV l inn S n (k+1)=bV l inn S n k++[NI (kH l inn S k n)]:=by simp [bV,List.range_succ]
theorem dL {i:Nat}(hS:1≤S):i/S=t↔t*S≤i∧i<t*S+S:=by
 constructor
 ·rintro rfl;exact ⟨Nat.div_mul_le_self i S,Nat.lt_div_mul_add hS⟩
 apply Y 0x7ae;intro h1 h2;rw [Nat.div_eq_iff hS]
 omega
theorem wU (hS:1≤S)(hl:(l.length:Int)=out)(ht:t<rdN inn out S):(rdC inn out S l).getD t false=gE l inn S t:=by
 unfold rdC chL;rw [ai ht,Bool.eq_iff_iff]
 unfold gE;rw [List.any_eq_true,List.any_eq_true]
 constructor
 ·apply Y 0xc10f;intro i hi h;have hi:=List.mem_range.1 hi;rw [Bool.and_eq_true,decide_eq_true_eq] at h;obtain ⟨h1,h2⟩:=(dL hS).1 h.1;refine ⟨i-t*S,List.mem_range.2 oe,?_⟩;rw [show t*S+(i-t*S)=i by omega];have h3:=h.2
  unfold chX at h3
  unfold chY
  split
  ·rename_i hlt
   rwa [if_pos hlt] at h3
  exact decide_eq_true oe
 apply Y 0xc10f;intro j hj h;apply Y 0x750f;intro hj;have hsec:(t*S+j)/S=t:=(dL hS).2 ⟨by omega,by omega⟩;refine ⟨t*S+j,List.mem_range.2 ?_,?_⟩
 ·unfold chY at h
  split at h
  ·omega
  have:=of_decide_eq_true h
  omega
 rw [decide_eq_true hsec,Bool.true_and]
 unfold chX
 unfold chY at h
 split
 ·rename_i hlt
  rwa [if_pos hlt] at h
 rfl
theorem zC (hS:1≤S)(hl:(l.length:Int)=out)(hn:n=rdN inn out S):rwM (rdC inn out S l) S n l l.length=bV l inn S n n:=by
 unfold rwM bV;refine List.map_congr_left fun u hu=>?_
 have hu:=List.mem_range.1 hu
 unfold rwR kH;rw [List.filter_congr fun t ht=>?_];have ht:=List.mem_range.1 ht;apply Y 0xb2e
 unfold rwP iH;rw [List.any_eq_true]
 constructor
 ·apply Y 0xc10f;intro i hi h;have hi:=List.mem_range.1 hi;rw [Bool.and_eq_true,Bool.and_eq_true,decide_eq_true_eq,decide_eq_true_eq,Bool.not_eq_true'] at h;obtain ⟨⟨h1,h2⟩,h3⟩:=h
  unfold eb at h2;rw [h1,h3] at h2
  simp only [Bool.or_eq_false_iff,Bool.not_eq_false',decide_eq_false_iff_not] at h2;obtain ⟨⟨⟨h4,h5⟩,h6⟩,h7⟩:=h2;rw [wU hS hl oe] at h6;rw [wU hS hl oe] at h7;rw [decide_eq_false h5,h6,h7];obtain ⟨h8,h9⟩:=(dL hS).1 h1
  unfold Ij;rw [Bool.not_false,Bool.true_and,Bool.true_and,Bool.true_and,List.any_eq_true];refine ⟨i-u*S,List.mem_range.2 oe,?_⟩;rw [show u*S+(i-u*S)=i by omega,decide_eq_true hi,h4,decide_eq_true h3]
  rfl
 intro h;rw [Bool.and_eq_true,Bool.and_eq_true,Bool.and_eq_true,Bool.not_eq_true',decide_eq_false_iff_not] at h;obtain ⟨⟨⟨h1,h2⟩,h3⟩,h4⟩:=h
 unfold Ij at h4;rw [List.any_eq_true] at h4;obtain ⟨j,hj,h4⟩:=h4;apply Y 0x750f;intro hj;rw [Bool.and_eq_true,Bool.and_eq_true,decide_eq_true_eq,decide_eq_true_eq] at h4;obtain ⟨⟨h5,h6⟩,h7⟩:=h4;have hsec:(u*S+j)/S=u:=(dL hS).2 ⟨by omega,by omega⟩;refine ⟨u*S+j,List.mem_range.2 h5,?_⟩
 unfold eb;rw [hsec,h6,h7,wU hS hl oe,wU hS hl oe,h2,h3,decide_eq_true rfl,decide_eq_true rfl,decide_eq_false h1]
 rfl
end
abbrev T3:=UInt8×UInt8×UInt8
def I9 (x:T3):List Value:=[.int .u8 (x.1.toNat:Int),.int .u8 (x.2.1.toNat:Int),.int .u8 (x.2.2.toNat:Int)]
def m5 (l:List T3):List Value:=l.flatMap I9
theorem u1 (l:List T3):(m5 l).length=l.length*3:=by
 induction l with
 |nil=>rfl
 |cons r l ih=>rw [show m5 (r::l)=I9 r++m5 l from rfl,List.length_append,ih];simp [I9];omega
theorem yC:∀ (l:List T3) (k:Nat),k<l.length→((m5 l).drop (k*3)).take 3=I9 (l.getD k (0,0,0))
  |[],_,h=>absurd h (Nat.not_lt_zero _)
  |_::_,0,_=>rfl
  |_::l,k+1,h=>by
    rw [show (k+1)*3=k*3+3 from by omega]
    exact yC l k qi
theorem kb {l:List T3}{k:Nat}(hk:k<l.length):0<(m5 l).length:=by rw [u1];omega
theorem jG {l:List T3}{i j:Nat}(hi:i<l.length)(hj:j<3):(m5 l)[i*3+j]?=(I9 (l.getD i (0,0,0)))[j]?:=by
 rw [← yC l i hi,List.getElem?_take,if_pos hj,List.getElem?_drop]
theorem J0 {ls:List (List Int)}(hr:cH ls=true)(hn:ls.length≤16):∃ s,s<2^ls.length∧vO ls=mem s 64∧vN ls=frs ls.length (rdP ls) s.testBit ls.length∧ig ls.length (rdP ls) s.testBit=true∧NV ls=0:=by
 have hle:∀ s,s<2^ls.length→(mem s 64).length≤ls.length:=fun s hs=>by rw [Ba oe hs];exact uf _ _
 have hb:2^ls.length≤2^16:=Nat.pow_le_pow_right ob hn;have h16:(2:Nat)^16=65536:=ob
 cases h:Gd ls with
 |none=>
  have h0:=dr.1 h;have hs:2^ls.length-1<2^ls.length:=oaY;have:=iy.1 (h0 (mem (2^ls.length-1) 64).length (by have:=hle _ hs;omega)) _ hs rfl;rw [wx.2 (Prg.all fun t ht=>by rw [Nat.testBit_two_pow_sub_one];exact decide_eq_true ht)] at this
  cases this
 |some b=>
  obtain ⟨k,h1,h2,h3⟩:=pU h;obtain ⟨⟨s,a1,rfl,a3,a4⟩,_⟩:=j4 h2;refine ⟨s,a1,?_,?_,a4,JZ hr hn⟩
  ·rw [HH hr hn,h]
   rfl
  rw [HG hr hn,h,G2 oe]
section
variable {l:List Sy}{inn:Int}{S n:Nat}
end
structure Plays (sy:List Sy)(old cp:List UInt8)(st seq:List Nat)(S n:Nat):Prop where
  s:1≤S
  out:sy.length≤n*S
  cl:cp.length=n*S
  inn:old.length≤n*S
  c:∀ i,i<old.length→cp.getD i 0=old.getD i 0
  nd:seq.Nodup
  lt:∀ t∈seq,t<n
  ok:zB old sy
  ord:∀ k,k<seq.length→∀ i,i<sy.length→i/S=seq.getD k 0→(sy.getD i Sy.zero).old=true→rdT (sy.getD i Sy.zero) S∈st∨rdT (sy.getD i Sy.zero) S∉seq.take k∨∀ i',i'/S=rdT (sy.getD i Sy.zero) S→i'<old.length→i'<sy.length∧sy.getD i' Sy.zero=⟨true,(i':Int),0⟩
theorem DO {old:List UInt8}{l:List Sy}{i:Nat}(h:i<l.length):(a7 old l).getD i 0=yl old (l.getD i Sy.zero):=by
 unfold a7;rw [List.getD_eq_getElem?_getD,List.getElem?_map,List.getElem?_eq_getElem h,List.getD_eq_getElem?_getD,List.getElem?_eq_getElem h]
 rfl
theorem FY {S n t:Nat}(h:t<n):t*S+S≤n*S:=by
 have:=Nat.mul_le_mul_right S (Nat.succ_le_of_lt h)
 rwa [Nat.succ_mul] at this
section
variable {sy:List Sy}{old cp:List UInt8}{st seq:List Nat}{S n:Nat}(H:Plays sy old cp st seq S n)
include H
end
theorem Ae {inn out:Int}{S:Nat}(hS:1≤S):inn≤((rdN inn out S*S:Nat):Int)∧out≤((rdN inn out S*S:Nat):Int):=by
 have h:(max inn out).toNat≤rdN inn out S*S:=by
  unfold rdN;have h1:=Nat.div_add_mod ((max inn out).toNat+S-1) S;have h2:=Nat.mod_lt ((max inn out).toNat+S-1) (show 0<S by omega);rw [Nat.mul_comm] at h1
  omega
 omega
theorem KC {l:List Sy}{inn:Int}{S t i:Nat}(hS:1≤S)(h:gE l inn S t=false)(hi:i/S=t):chY l inn i=false:=by
 have h1:=(dL hS).1 hi
 cases hc:chY l inn i with
 |false=>rfl
 |true=>
  have:gE l inn S t=true:=lI (p:=fun j=>chY l inn (t*S+j)) (k:=i-t*S) oe (by rw [show t*S+(i-t*S)=i by omega];exact hc);rw [h] at this
  cases this
section
variable {P:Program}{m l:Nat}{ops:Array Oper}{Q:Exit→Act→World→Prop}
end
section
variable {X:Cx}{β:Base}{n:Nat}{ds:List Deferred}{ops:Array Oper}{Q:Exit→Act→World→Prop}{rest:List Oper}{Γ:Env}{R H:List Pr}
end
end Go.Sl
