/-
  Part of a proof.
-/
import Derived.Test.YtbpddeiogcgegaaGreatYPl
set_option maxHeartbeats 0
set_option maxRecDepth 4000
set_option linter.all false
namespace Go.Sl
def J8 (ls:List (List Int)):List (List Value):=ls.map I64
theorem bW (ls:List (List Int)):(J8 ls).length=ls.length:=by simp [J8]
theorem dT {ls:List (List Int)}(i:Nat):(J8 ls).getD i []=I64 (ls.getD i []):=by
 simp only [J8,List.getD_eq_getElem?_getD,List.getElem?_map]
 cases ls[i]?<;>rfl
theorem pD (ls:List (List Int))(l:List Int):J8 ls++[I64 l]=J8 (ls++[l]):=by simp [J8]
theorem cG {hs:List Hd}{ls:List (List Int)}(h:hs.length=ls.length){i:Nat}(hi:i<ls.length):(aB hs (J8 ls))[i]?=some (.slice (hs.getD i (none,0)).1 (ls.getD i []).length (hs.getD i (none,0)).2):=by
 simp [aB,J8,hi,h,bq]
theorem kC {hs:List Hd}{ls:List (List Int)}(h:hs.length=ls.length)(g:Hd)(l:List Int):aB hs (J8 ls)++[.slice g.1 l.length g.2]=aB (hs++[g]) (J8 (ls++[l])):=by
 have:=rq (hs:=hs) (vss:=J8 ls) (by rw [bW];exact h) g (I64 l);rw [bq] at this;rw [this,pD]
theorem bK {p:Nat→Prop}{k:Nat}(h:∀ i,i<k→p i)(hk:p k):∀ i,i<k+1→p i:=by
 intro i hi
 rcases Nat.lt_succ_iff_lt_or_eq.1 hi with h1|rfl
 ·exact h i h1
 exact hk
theorem bA {p:Nat→Prop}:∀ i,i<0→p i:=fun _ h=>absurd h (Nat.not_lt_zero _)
def GE (a b:Int):Int:=if a<b then -1 else if b<a then 1 else 0
theorem kV {l:List Int}{k:Nat}{n:Int}(hk:k<l.length)(h:l.getD k 0=n):l.contains n=true:=by
 subst h;rw [List.contains_iff_mem]
 simp only [List.getD_eq_getElem?_getD,List.getElem?_eq_getElem hk,Option.getD_some]
 exact List.getElem_mem hk
theorem mC {l:List Int}{n:Int}(h:∀ i,i<l.length→l.getD i 0≠n):l.contains n=false:=by
 cases hc:l.contains n with
 |false=>rfl
 |true=>
  obtain ⟨i,hi,e⟩:=List.mem_iff_getElem.1 (List.contains_iff_mem.1 hc)
  exact absurd (by simp [List.getD_eq_getElem?_getD,hi,e]) (h i hi)
def n9:List Int→List Int→Int
  |[],[]=>0
  |[],_::_=> -1
  |_::_,[]=>1
  |x::xs,y::ys=>if GE x y=0 then n9 xs ys else GE x y
theorem sZ {x y:Int}:GE x y=0↔x=y:=by
 unfold GE
 split
 ·omega
 split<;>omega
def jF (n u:Nat)(row:List Int)(i:Nat):Prop:=row.getD i 0<0∨(n:Int)≤row.getD i 0∨row.getD i 0=(u:Int)∨(0<i∧row.getD i 0≤row.getD (i-1) 0)
instance (n u:Nat)(row:List Int)(i:Nat):Decidable (jF n u row i):=by unfold jF;infer_instance
def jA (n u:Nat)(row:List Int):Bool:=(List.range row.length).all fun i=>decide ¬jF n u row i
def cH (ls:List (List Int)):Bool:=(List.range ls.length).all fun u=>jA ls.length u (ls.getD u [])
theorem rL {n u:Nat}{row:List Int}(h:∀ i,i<row.length→¬jF n u row i):jA n u row=true:=by
 simp only [jA,List.all_eq_true,List.mem_range,decide_eq_true_eq]
 exact h
theorem rM {n u:Nat}{row:List Int}(h:jA n u row=true){i:Nat}(hi:i<row.length):¬jF n u row i:=by
 simp only [jA,List.all_eq_true,List.mem_range,decide_eq_true_eq] at h
 exact h i hi
theorem Eb {n u i:Nat}{row:List Int}(hi:i<row.length)(h:jF n u row i):jA n u row=false:=by
 cases hc:jA n u row with
 |false=>rfl
 |true=>exact absurd h (rM hc hi)
theorem rJ {ls:List (List Int)}(h:∀ u,u<ls.length→jA ls.length u (ls.getD u [])=true):cH ls=true:=by
 simp only [cH,List.all_eq_true,List.mem_range]
 exact h
theorem rK {ls:List (List Int)}(h:cH ls=true){u:Nat}(hu:u<ls.length):jA ls.length u (ls.getD u [])=true:=by
 simp only [cH,List.all_eq_true,List.mem_range] at h
 exact h u hu
theorem D8 {ls:List (List Int)}{u:Nat}(hu:u<ls.length)(h:jA ls.length u (ls.getD u [])=false):cH ls=false:=by
 cases hc:cH ls with
 |false=>rfl
 |true=>rw [rK hc hu] at h;cases h
def NI (l:List Nat):List Int:=l.map fun (t:Nat)=>(t:Int)
theorem bb (l:List Nat):(NI l).length=l.length:=by simp [NI]
theorem GL (a b:List Nat):NI (a++b)=NI a++NI b:=by simp [NI]
theorem gk (l:List Nat)(t:Nat):(NI l).contains (t:Int)=l.contains t:=by
 rw [Bool.eq_iff_iff,List.contains_iff_mem,List.contains_iff_mem]
 simp only [NI,List.mem_map]
 constructor
 ·apply Y 0xc10f;intro a h e;obtain rfl:a=t:=oe
  exact h
 exact fun h=>⟨t,h,rfl⟩
def tZ (n:Nat)(p:Nat→Nat→Bool)(st:Nat→Bool)(out:List Nat)(t:Nat):Bool:= !out.contains t&&(st t||(List.range n).all fun u=> !p u t||out.contains u)
def frs (n:Nat)(p:Nat→Nat→Bool)(st:Nat→Bool):Nat→List Nat
  |0=>[]
  |k+1=>match (List.range n).find? (tZ n p st (frs n p st k)) with
    |none=>frs n p st k
    |some t=>frs n p st k++[t]
section
variable {n:Nat}{p:Nat→Nat→Bool}{st:Nat→Bool}
theorem EM {k:Nat}(h:∀ t,t<n→tZ n p st (frs n p st k) t=false):frs n p st (k+1)=frs n p st k:=by
 have e:(List.range n).find? (tZ n p st (frs n p st k))=none:=by
  apply Y 0x440f;intro t ht;rw [h t (List.mem_range.1 ht)]
  decide
 rw [frs,e]
theorem uA {q:Nat→Bool}{n t:Nat}(h1:∀ i,i<t→q i=false)(ht:t<n)(h2:q t=true):(List.range n).find? q=some t:=by
 rw [List.find?_range_eq_some];exact ⟨h2,List.mem_range.2 ht,fun j hj=>by rw [h1 j hj];rfl⟩
theorem EL {k t:Nat}(h1:∀ i,i<t→tZ n p st (frs n p st k) i=false)(ht:t<n)(h2:tZ n p st (frs n p st k) t=true):frs n p st (k+1)=frs n p st k++[t]:=by
 rw [frs,uA h1 ht h2]
theorem Iq (k:Nat):(frs n p st k).length≤k:=by
 induction k with
 |zero=>exact Nat.le_refl _
 |succ k ih=>
  rw [frs]
  split
  ·omega
  rw [List.length_append]
  simp
  exact ih
theorem iU (k:Nat):∀ t∈frs n p st k,t<n:=by
 induction k with
 |zero=>intro t h;cases h
 |succ k ih=>
  intro t ht;rw [frs] at ht
  split at ht
  ·exact ih t ht
  rename_i s hs
  rcases List.mem_append.1 ht with h|h
  ·exact ih t h
  obtain rfl:=List.mem_singleton.1 h
  exact List.mem_range.1 (List.mem_of_find?_eq_some hs)
end
def mem (m t:Nat):List Nat:=(List.range t).filter m.testBit
theorem Kd {m t:Nat}(h:m.testBit t=false):mem m (t+1)=mem m t:=by simp [mem,List.range_succ,List.filter_append,h]
theorem uf (m t:Nat):(mem m t).length≤t:=by
 have:=List.length_filter_le m.testBit (List.range t)
 rwa [List.length_range] at this
theorem AZ {m t:Nat}(h:∀ i,t≤i→m.testBit i=false):∀ d,mem m (t+d)=mem m t
  |0=>rfl
  |d+1=>by rw [← Nat.add_assoc,Kd (h _ (Nat.le_add_right _ _)),AZ h d]
section
variable {n u j:Nat}{ls:List (List Int)}{ms:List Nat}
end
section
variable {n k t d S:Nat}{p:Nat→Nat→Bool}{st:Nat→Bool}{out:List Nat}
end
def C3 (ls:List (List Int))(dn sn:List Int)(t:Nat):Bool:=sn.contains (t:Int)||(List.range ls.length).all fun u=>decide (u=t)|| !(ls.getD u []).contains (t:Int)||dn.contains (u:Int)
theorem II {ls:List (List Int)}{dn sn:List Int}{t u:Nat}(hs:sn.contains (t:Int)=false)(hu:u<ls.length)(h:(decide (u=t)|| !(ls.getD u []).contains (t:Int)||dn.contains (u:Int))=false):C3 ls dn sn t=false:=by
 unfold C3;rw [hs,Bool.false_or]
 cases hc:((List.range ls.length).all fun u=>decide (u=t)|| !(ls.getD u []).contains (t:Int)||dn.contains (u:Int)) with
 |false=>rfl
 |true=>
  have:=List.all_eq_true.1 hc u (List.mem_range.2 hu);rw [h] at this
  cases this
theorem Ff {ls:List (List Int)}{dn sn:List Int}{t:Nat}(h:∀ u,u<ls.length→(decide (u=t)|| !(ls.getD u []).contains (t:Int)||dn.contains (u:Int))=true):C3 ls dn sn t=true:=by
 unfold C3;rw [List.all_eq_true.2 (fun u hu=>h u (List.mem_range.1 hu)),Bool.or_true]
theorem IH {ls:List (List Int)}{dn sn:List Int}{t:Nat}(h:sn.contains (t:Int)=true):C3 ls dn sn t=true:=by
 unfold C3;rw [h,Bool.true_or]
def rdP (ls:List (List Int))(u t:Nat):Bool:=(ls.getD u []).contains (t:Int)
theorem Ec {ls:List (List Int)}(h:cH ls=true){t:Nat}(ht:t<ls.length):rdP ls t t=false:=by
 unfold rdP;refine mC (fun i hi=>?_);have:=rM (rK h ht) hi
 unfold jF at this
 omega
theorem HM {ls:List (List Int)}(h:cH ls=true){sn:List Int}{out:List Nat}{t:Nat}(ht:t<ls.length):
    tZ ls.length (rdP ls) (fun t=>sn.contains (t:Int)) out t=(!(NI out).contains (t:Int)&&C3 ls (NI out) sn t):=by
 unfold tZ C3;rw [gk]
 congr 2;rw [Bool.eq_iff_iff,List.all_eq_true,List.all_eq_true];refine forall_congr' fun u=>forall_congr' fun hu=>?_
 rw [gk]
 by_cases e:u=t
 ·subst e;rw [Ec h ht]
  simp
 simp [e,rdP]
def stL:Nat→Nat→Nat→List (List Nat)
  |0,_,_=>[[]]
  |k+1,f,n=>(List.range' f (n-f)).flatMap fun t=>(stL k (t+1) n).map (t:: ·)
def stP (k f n d:Nat):List (List Nat):=(List.range' f d).flatMap fun t=>(stL k (t+1) n).map (t:: ·)
theorem Dr (k f n:Nat):stP k f n 0=[]:=rfl
theorem nh (k f n d:Nat):stP k f n (d+1)=stP k f n d++(stL k (f+d+1) n).map ((f+d):: ·):=by
 simp [stP,List.range'_concat]
theorem tG (k f n:Nat):stP k f n (n-f)=stL (k+1) f n:=rfl
theorem ni:∀ (k f n:Nat),(stL k f n).length≤2^(n-f)
  |0,_,_=>Nat.one_le_two_pow
  |k+1,f,n=>by
    have key:∀ d,d≤n-f→(stP k f n d).length+2^(n-(f+d))≤2^(n-f):=by
      intro d
      induction d with
      |zero=>
        intro _
        rw [Dr]
        simp
      |succ d ih=>
        intro hd
        have h1:=ih oe
        have h2:=ni k (f+d+1) n
        rw [nh,List.length_append,List.length_map]
        rw [show n-(f+d)=n-(f+d+1)+1 from by omega,Nat.pow_succ] at h1
        rw [show f+(d+1)=f+d+1 from by omega]
        omega
    have:=key (n-f) (Nat.le_refl _)
    rw [tG] at this
    exact Nat.le_trans (Nat.le_add_right _ _) this
theorem zc (k f n d:Nat)(h:d≤n-f):(stP k f n d).length≤2^(n-f):=by
 have e:(stL (k+1) f n)=stP k f n d++(List.range' (f+d) (n-f-d)).flatMap fun t=>(stL k (t+1) n).map (t:: ·):=by
  rw [← tG]
  unfold stP;rw [← List.flatMap_append,List.range'_append_1,show d+(n-f-d)=n-f from by omega]
 have h2:=ni (k+1) f n;rw [e,List.length_append] at h2
 omega
theorem jI:∀ (k f n:Nat),∀ l∈stL k f n,l.length=k
  |0,_,_,l,h=>by
    obtain rfl:=List.mem_singleton.1 h
    rfl
  |k+1,f,n,l,h=>by
    simp only [stL,List.mem_flatMap,List.mem_map] at h
    obtain ⟨t,_,l',h',rfl⟩:=h
    rw [List.length_cons,jI k _ _ l' h']
def NL (ls:List (List Nat)):List (List Int):=ls.map NI
theorem lT (ls:List (List Nat)):(NL ls).length=ls.length:=by simp [NL]
theorem GI (a b:List (List Nat)):NL (a++b)=NL a++NL b:=by simp [NL]
theorem tm {ls:List (List Nat)}{i:Nat}(h:i<ls.length):(NL ls).getD i []=NI (ls.getD i []):=by simp [NL,h]
theorem ze {k f n i:Nat}(h:i<(stL k f n).length):((NL (stL k f n)).getD i []).length=k:=by
 rw [tm h,bb]
 exact jI k f n _ (by simp [h])
def stQ (k f n d i:Nat):List (List Nat):=stP k f n d++((stL k (f+d+1) n).take i).map ((f+d):: ·)
theorem jH (k f n d:Nat):stQ k f n d 0=stP k f n d:=by simp [stQ]
theorem Dq {k f n d i:Nat}(h:i<(stL k (f+d+1) n).length):stQ k f n d (i+1)=stQ k f n d i++[(f+d)::(stL k (f+d+1) n).getD i []]:=by
 unfold stQ;rw [aC _ [] i h,List.map_append,List.append_assoc]
 rfl
theorem G1 {k f n d i:Nat}(h:(stL k (f+d+1) n).length≤i):stQ k f n d i=stP k f n (d+1):=by
 unfold stQ;rw [List.take_of_length_le h,nh]
theorem G0 {k f n d i:Nat}(h:d+1≤n-f):(stQ k f n d i).length≤2^(n-f):=by
 have:=zc k f n (d+1) h;rw [nh,List.length_append,List.length_map] at this
 unfold stQ;rw [List.length_append,List.length_map,List.length_take]
 omega
theorem eE {n f:Nat}(h:n≤16):2^(n-f)≤65536:=Nat.le_trans (Nat.pow_le_pow_right ob (show n-f≤16 by omega)) ob
def ig (n:Nat)(p:Nat→Nat→Bool)(st:Nat→Bool):Bool:=(frs n p st n).length==n
def bst (n:Nat)(p:Nat→Nat→Bool)(k:Nat):Nat→Option (List Nat)
  |0=>none
  |s+1=>if (mem s 64).length=k∧(∀ b,bst n p k s=some b→¬n9 (NI (mem s 64)) (NI b)>0)∧ig n p s.testBit=true then some (mem s 64) else bst n p k s
def jJ (g:Nat→Option (List Nat)):Nat→Option (List Nat)
  |0=>none
  |k+1=>match jJ g k with
    |some x=>some x
    |none=>g k
theorem zi {g:Nat→Option (List Nat)}{k:Nat}(h:jJ g k=none)(h2:g k=none):jJ g (k+1)=none:=by rw [jJ,h];exact h2
theorem pV {g:Nat→Option (List Nat)}{k:Nat}{x:List Nat}(h:jJ g k=some x):∀ d,jJ g (k+d)=some x
  |0=>h
  |d+1=>by rw [← Nat.add_assoc,jJ,pV h d]
theorem xz {g:Nat→Option (List Nat)}{k m:Nat}{x:List Nat}(h:jJ g k=none)(h2:g k=some x)(hk:k<m):jJ g m=some x:=by
 have h3:jJ g (k+1)=some x:=by rw [jJ,h];exact h2
 have:=pV h3 (m-(k+1))
 rwa [show k+1+(m-(k+1))=m from by omega] at this
def sqO (n:Nat)(p:Nat→Nat→Bool):Option (List Nat)→List Nat
  |none=>[]
  |some l=>frs n p (fun t=>l.contains t) n
section
variable {n k s:Nat}{p:Nat→Nat→Bool}
theorem ug {m t:Nat}(hm:m<18446744073709551616):(mem m 64).contains t=m.testBit t:=by
 rw [Bool.eq_iff_iff,List.contains_iff_mem]
 simp only [mem,List.mem_filter,List.mem_range];refine ⟨fun h=>h.2,fun h=>⟨?_,h⟩⟩
 rcases Nat.lt_or_ge t 64 with h1|h1
 ·exact h1
 rw [Nat.testBit_lt_two_pow (by have:=Nat.pow_le_pow_right (n:=2) ob h1;omega)] at h
 cases h
theorem kY {st st':Nat→Bool}(h:∀ t,st t=st' t):∀ k,frs n p st k=frs n p st' k:=by
 have:st=st':=funext h;subst this
 exact fun _=>rfl
theorem G2 {m:Nat}(hm:m<18446744073709551616):sqO n p (some (mem m 64))=frs n p m.testBit n:=kY (fun _=>ug hm) n
theorem jX {st:Nat→Bool}:ig n p st=true↔(frs n p st n).length=n:=by unfold ig;exact beq_iff_eq
theorem Ip {st:Nat→Bool}:ig n p st=false↔(frs n p st n).length≠n:=by unfold ig;exact beq_eq_false_iff_ne
end
def Gd (ls:List (List Int)):Option (List Nat):=jJ (fun k=>bst ls.length (rdP ls) k (2^ls.length)) (ls.length+1)
def JY (ls:List (List Int)):Option (List Nat):=if cH ls=true∧ls.length≤16 then Gd ls else none
def NV (ls:List (List Int)):Int:=if cH ls=true then (if ls.length≤16 then 0 else 2) else 1
def vN (ls:List (List Int)):List Nat:=sqO ls.length (rdP ls) (JY ls)
def vO (ls:List (List Int)):List Nat:=(JY ls).getD []
section
variable {ls:List (List Int)}
theorem tV (h:cH ls=true)(h2:ls.length≤16):JY ls=Gd ls:=if_pos ⟨h,h2⟩
theorem HG (h:cH ls=true)(h2:ls.length≤16):vN ls=sqO ls.length (rdP ls) (Gd ls):=by unfold vN;rw [tV h h2]
theorem HH (h:cH ls=true)(h2:ls.length≤16):vO ls=(Gd ls).getD []:=by unfold vO;rw [tV h h2]
theorem JZ (h:cH ls=true)(h2:ls.length≤16):NV ls=0:=by unfold NV;rw [if_pos h,if_pos h2]
end
theorem BJ {α:Type}{q:α→Bool}{d:α}:∀ {l:List α} {i:Nat},(∀ j,j<i→q (l.getD j d)=false)→i<l.length→q (l.getD i d)=true→l.find? q=some (l.getD i d)
  |[],_,_,h,_=>absurd h (Nat.not_lt_zero _)
  |x::l,0,_,_,h=>by
    have:q x=true:=h
    simp [this]
  |x::l,i+1,h1,h2,h3=>by
    have h0:q x=false:=h1 0 (Nat.succ_pos _)
    have:=BJ (l:=l) (i:=i) (d:=d) (fun j hj=>h1 (j+1) (Nat.succ_lt_succ hj)) (Nat.lt_of_succ_lt_succ h2) h3
    simp only [List.find?_cons,h0]
    exact this
theorem ES {α:Type}{q:α→Bool}{d:α}{l:List α}(h:∀ j,j<l.length→q (l.getD j d)=false):l.find? q=none:=by
 apply Y 0x440f;intro x hx;obtain ⟨i,hi,rfl⟩:=List.mem_iff_getElem.1 hx;have:=h i hi
 simp only [List.getD_eq_getElem?_getD,List.getElem?_eq_getElem hi,Option.getD_some] at this;rw [this]
 decide
def nZ (n:Nat)(p:Nat→Nat→Bool)(l:List Nat):Bool:=ig n p (fun t=>l.contains t)
def NQ (ls:List (List Int)):Option (List Nat):=jJ (fun k=>(stL k 0 ls.length).find? (nZ ls.length (rdP ls))) (ls.length+1)
def zX (ls:List (List Int)):Option (List Nat):=if cH ls=true∧ls.length≤16 then NQ ls else none
def Hv (ls:List (List Int)):Int:=if cH ls=true then (if (zX ls).isSome=true then 0 else 2) else 1
def F3 (ls:List (List Int)):List Nat:=sqO ls.length (rdP ls) (zX ls)
def F4 (ls:List (List Int)):List Nat:=(zX ls).getD []
section
variable {ls:List (List Int)}
theorem zW (h:cH ls=false∨16<ls.length):zX ls=none:=by
 unfold zX;rw [if_neg];apply Y 0x7ae;intro h1 h2
 rcases h with h|h
 ·rw [h] at h1
  cases h1
 omega
theorem zV (h:cH ls=true)(h2:ls.length≤16):zX ls=NQ ls:=if_pos ⟨h,h2⟩
theorem nw (h:zX ls=none):F3 ls=[]∧F4 ls=[]∧Hv ls=if cH ls=true then 2 else 1:=by
 unfold F3 F4 Hv;rw [h];exact Zm 0xd1e
theorem D1 {l:List Nat}(h1:cH ls=true)(h:zX ls=some l):F3 ls=frs ls.length (rdP ls) (fun t=>l.contains t) ls.length∧F4 ls=l∧Hv ls=0:=by
 unfold F3 F4 Hv;rw [h,if_pos h1];exact Zm 0xd1e
theorem RD {L:List (List Nat)}{i:Nat}(h:i<L.length)(t:Nat):((NL L).getD i []).contains (t:Int)=(L.getD i []).contains t:=by rw [tm h,gk]
end
structure Po where
  k:Int
  fr:Int
  ln:Int
  b:UInt8
def Po.cells (x:Po):List Value:=[.int .i64 x.k,.int .i64 x.fr,.int .i64 x.ln,.int .u8 (x.b.toNat:Int),.slice none 0 0]
def Po.zero:Po:=⟨0,0,0,0⟩
def cv (l:List Po):List Value:=l.flatMap Po.cells
theorem Ej (l:List Po):(cv l).length=l.length*5:=by
 induction l with
 |nil=>rfl
 |cons r l ih=>rw [show cv (r::l)=r.cells++cv l from rfl,List.length_append,ih];simp [Po.cells];omega
theorem nN:∀ (l:List Po) (k:Nat),k<l.length→((cv l).drop (k*5)).take 5=(l.getD k Po.zero).cells
  |[],_,h=>absurd h (Nat.not_lt_zero _)
  |_::_,0,_=>rfl
  |_::l,k+1,h=>by
    rw [show (k+1)*5=k*5+5 from by omega]
    exact nN l k qi
theorem nM {l:List Po}{k:Nat}(hk:k<l.length):0<(cv l).length:=by rw [Ej];omega
theorem nO (a b:List Po):cv (a++b)=cv a++cv b:=by simp [cv]
def Bk (x:Po)(size:Int):Bool:=decide (0≤x.fr∧x.fr≤size-x.ln)
def bM (x:Po)(size:Int):Bool:=
  if x.k=1 then Bk x size&&decide ((x.b.toNat:Int)=0) else if x.k=2 then Bk x size&&decide ((x.b.toNat:Int)=0)&&decide (x.ln=0) else if x.k=3 then decide (x.fr=0) else if x.k=4 then decide (x.fr=0)&&decide ((x.b.toNat:Int)=0)&&decide (x.ln=0) else false
def dK (x:Po)(t1 t2 t3 t4 t0:Nat):Nat:=if x.k=1 then t1 else if x.k=2 then t2 else if x.k=3 then t3 else if x.k=4 then t4 else t0
def fc (x:Po):Value:=if x.k=1∨x.k=2∨x.k=3∨x.k=4 then .agg (List.toArray x.cells) else .agg (List.toArray [])
def fh (size:Int):Int→List Po→Bool
  |left,[]=>decide (left≤0)
  |left,x::xs=>if x.ln<1∨left<x.ln∨bM x size=false then false else fh size (left-x.ln) xs
def cU (inn out:Int)(l:List Po):Int:=if min inn out<0∨65536<max inn out∨4096<l.length then 60 else if fh inn out l=true then 0 else 60
theorem BU {l:List Po}{i:Nat}(h:i<l.length):l.drop i=l.getD i Po.zero::l.drop (i+1):=by
 rw [List.drop_eq_getElem_cons h];exact Zm 0x7b0f
theorem lB {size left:Int}{l:List Po}{i:Nat}(h:i<l.length)(hb:(l.getD i Po.zero).ln<1∨left<(l.getD i Po.zero).ln∨bM (l.getD i Po.zero) size=false):fh size left (l.drop i)=false:=by
 rw [BU h,fh,if_pos hb]
theorem s3 {size left:Int}{l:List Po}{i:Nat}(h:i<l.length)(h1:¬(l.getD i Po.zero).ln<1)(h2:¬left<(l.getD i Po.zero).ln)(h3:bM (l.getD i Po.zero) size=true):fh size left (l.drop i)=fh size (left-(l.getD i Po.zero).ln) (l.drop (i+1)):=by
 rw [BU h,fh,if_neg (by
  rintro (q|q|q)
  ·exact h1 q
  ·exact h2 q
  ·rw [h3] at q;cases q)]
theorem iu {size left:Int}{l:List Po}{i:Nat}(h:l.length≤i):fh size left (l.drop i)=decide (left≤0):=by
 rw [List.drop_eq_nil_of_le h,fh]
structure Sy where
  old:Bool
  at_:Int
  b:UInt8
  deriving DecidableEq
def Sy.cells (s:Sy):List Value:=[.bool s.old,.int .i64 s.at_,.int .u8 (s.b.toNat:Int)]
def Sy.zero:Sy:=⟨false,0,0⟩
def dh (l:List Sy):List Value:=l.flatMap Sy.cells
theorem yL (l:List Sy):(dh l).length=l.length*3:=by
 induction l with
 |nil=>rfl
 |cons r l ih=>rw [show dh (r::l)=r.cells++dh l from rfl,List.length_append,ih];simp [Sy.cells];omega
theorem eG:∀ (l:List Sy) (k:Nat),k<l.length→((dh l).drop (k*3)).take 3=(l.getD k Sy.zero).cells
  |[],_,h=>absurd h (Nat.not_lt_zero _)
  |_::_,0,_=>rfl
  |_::l,k+1,h=>by
    rw [show (k+1)*3=k*3+3 from by omega]
    exact eG l k qi
theorem dW {l:List Sy}{k:Nat}(hk:k<l.length):0<(dh l).length:=by rw [yL];omega
theorem yM (a b:List Sy):dh (a++b)=dh a++dh b:=by simp [dh]
def pS (x:Po)(i:Nat):Sy:=if x.k=1 then ⟨true,x.fr+(i:Int),0⟩ else ⟨false,0,x.b⟩
def l5 (x:Po)(m:Nat):List Sy:=(List.range m).map (pS x)
theorem m9 (x:Po)(m:Nat):(l5 x m).length=m:=by simp [l5]
theorem yO (x:Po)(m:Nat):l5 x (m+1)=l5 x m++[pS x m]:=by simp [l5,List.range_succ]
def ah (l:List Po):List Sy:=l.flatMap fun x=>l5 x x.ln.toNat
theorem kh (l:List Po)(i:Nat)(h:i<l.length):ah (l.take (i+1))=ah (l.take i)++l5 (l.getD i Po.zero) (l.getD i Po.zero).ln.toNat:=by
 rw [aC l Po.zero i h]
 simp [ah]
theorem pb {size:Int}:∀ (l:List Po) (left:Int),0≤left→fh size left l=true→((ah l).length:Int)≤left
  |[],left,h0,_=>h0
  |x::l,left,h0,h=>by
    rw [fh] at h
    split at h
    · cases h
    · rename_i hb
      have ih:=pb l (left-x.ln) oe h
      rw [show ah (x::l)=l5 x x.ln.toNat++ah l from rfl,List.length_append,m9]
      omega
theorem vd (l:List Po)(i j:Nat)(h:i<l.length)(hj:j≤(l.getD i Po.zero).ln.toNat):(ah (l.take i)++l5 (l.getD i Po.zero) j).length≤(ah l).length:=by
 have e:ah l=ah (l.take (i+1))++ah (l.drop (i+1)):=by
  unfold ah;rw [← List.flatMap_append,List.take_append_drop]
 rw [e,kh l i h]
 simp only [List.length_append,m9]
 omega
theorem j3 {size:Int}:∀ (l:List Po) (left:Int),fh size left l=true→∀ i,i<l.length→1≤(l.getD i Po.zero).ln∧(l.getD i Po.zero).ln≤left∧bM (l.getD i Po.zero) size=true
  |x::l,left,h,i,hi=>by
    rw [fh] at h
    split at h
    · cases h
    · rename_i hb
      cases i with
      |zero=>
        show 1≤x.ln∧x.ln≤left∧bM x size=true
        refine ⟨by omega,by omega,?_⟩
        cases hr:bM x size with
        |true=>rfl
        |false=>exact absurd (.inr (.inr hr)) hb
      |succ i=>
        have:=j3 l (left-x.ln) h i (Nat.lt_of_succ_lt_succ hi)
        show 1≤(l.getD i Po.zero).ln∧(l.getD i Po.zero).ln≤left∧bM (l.getD i Po.zero) size=true
        exact ⟨this.1,by omega,this.2.2⟩
def syS (inn out:Int)(l:List Po):List Sy:=if cU inn out l=0 then ah l else []
theorem Di (x:Po)(i:Nat):∀ v∈(pS x i).cells,v.oneCell'=true:=by
 intro v hv
 simp only [Sy.cells,List.mem_cons,List.not_mem_nil,or_false] at hv
 rcases hv with rfl|rfl|rfl<;>rfl
theorem fD {inn out:Int}{l:List Po}(h:cU inn out l=0):0≤inn∧inn≤65536∧0≤out∧out≤65536∧l.length≤4096∧fh inn out l=true:=by
 unfold cU at h
 split at h
 ·cases h
 split at h
 ·rename_i h1 h2;exact ⟨by omega,by omega,by omega,by omega,by omega,h2⟩
 cases h
def yl (old:List UInt8)(s:Sy):UInt8:=if s.old=true then s.b+old.getD s.at_.toNat 0 else s.b
def a7 (old:List UInt8)(l:List Sy):List UInt8:=l.map (yl old)
def zB (old:List UInt8)(l:List Sy):Prop:=∀ i,i<l.length→(l.getD i Sy.zero).old=true→0≤(l.getD i Sy.zero).at_∧(l.getD i Sy.zero).at_<(old.length:Int)
theorem dX (old:List UInt8)(l:List Sy):(a7 old l).length=l.length:=List.length_map _
theorem rj (old:List UInt8)(l:List Sy){i:Nat}(h:i<l.length):a7 old (l.take (i+1))=a7 old (l.take i)++[yl old (l.getD i Sy.zero)]:=by
 unfold a7;rw [aC l Sy.zero i h,List.map_append]
 rfl
def Kk (b:List UInt8)(i:Nat):UInt8:=if i<b.length then b.getD i 0 else UInt8.ofNat (7*i%256)
def pI (b:List UInt8)(n:Nat):List UInt8:=(List.range n).map (Kk b)
theorem wj (b:List UInt8)(n:Nat):(pI b n).length=n:=by simp [pI]
theorem Bn (b:List UInt8)(n:Nat):pI b (n+1)=pI b n++[Kk b n]:=by simp [pI,List.range_succ]
def atL (n:Nat)(seq:List Int):Nat→List Int
  |0=>List.replicate n (-1)
  |i+1=>(atL n seq i).set (seq.getD i 0).toNat (i:Int)
def RU (n:Nat)(seq:List Int)(i:Nat):Prop:=seq.getD i 0<0∨(n:Int)≤seq.getD i 0∨0≤(atL n seq i).getD (seq.getD i 0).toNat 0
instance (n:Nat)(seq:List Int)(i:Nat):Decidable (RU n seq i):=by unfold RU;infer_instance
end Go.Sl
