/-
  Part of a proof.
-/
import Derived.Test.YtbpddeiogcgegaaGreatVSlI
import Derived.Test.YtbpddeiogcgegaaGreatVPl
set_option maxHeartbeats 0
set_option maxRecDepth 4000
set_option linter.all false
namespace Go.Sl
def J8 (ls:List (List Int)):List (List Value):=ls.map I64
theorem bU (ls:List (List Int)):(J8 ls).length=ls.length:=by simp [J8]
theorem dt {ls:List (List Int)}(i:Nat):(J8 ls).getD i []=I64 (ls.getD i []):=by
 simp only [J8,List.getD_eq_getElem?_getD,List.getElem?_map]
 cases ls[i]?<;>rfl
theorem nf (ls:List (List Int))(l:List Int):J8 ls++[I64 l]=J8 (ls++[l]):=by simp [J8]
theorem cv {hs:List Hd}{ls:List (List Int)}(h:hs.length=ls.length){i:Nat}(hi:i<ls.length):(ay hs (J8 ls))[i]?=some (.slice (hs.getD i (none,0)).1 (ls.getD i []).length (hs.getD i (none,0)).2):=by
 simp [ay,J8,hi,h,bu]
theorem jz {hs:List Hd}{ls:List (List Int)}(h:hs.length=ls.length)(g:Hd)(l:List Int):ay hs (J8 ls)++[.slice g.1 l.length g.2]=ay (hs++[g]) (J8 (ls++[l])):=by
 have:=nL (hs:=hs) (vss:=J8 ls) (by rw [bU];exact h) g (I64 l);rw [bu] at this;rw [this,nf]
theorem bB {p:Nat→Prop}{k:Nat}(h:∀ i,i<k→p i)(hk:p k):∀ i,i<k+1→p i:=by
 intro i hi
 rcases Nat.lt_succ_iff_lt_or_eq.1 hi with h1|rfl
 ·exact h i h1
 exact hk
theorem br {p:Nat→Prop}:∀ i,i<0→p i:=fun _ h=>absurd h (Nat.not_lt_zero _)
def Fk (a b:Int):Int:=if a<b then -1 else if b<a then 1 else 0
theorem jW {l:List Int}{k:Nat}{n:Int}(hk:k<l.length)(h:l.getD k 0=n):l.contains n=true:=by
 subst h;rw [List.contains_iff_mem]
 simp only [List.getD_eq_getElem?_getD,List.getElem?_eq_getElem hk,Option.getD_some]
 exact List.getElem_mem hk
theorem lq {l:List Int}{n:Int}(h:∀ i,i<l.length→l.getD i 0≠n):l.contains n=false:=by
 cases hc:l.contains n with
 |false=>rfl
 |true=>
  obtain ⟨i,hi,e⟩:=List.mem_iff_getElem.1 (List.contains_iff_mem.1 hc)
  exact absurd (by simp [List.getD_eq_getElem?_getD,hi,e]) (h i hi)
def mT:List Int→List Int→Int
  |[],[]=>0
  |[],_::_=> -1
  |_::_,[]=>1
  |x::xs,y::ys=>if Fk x y=0 then mT xs ys else Fk x y
theorem pQ {x y:Int}:Fk x y=0↔x=y:=by
 unfold Fk
 split
 ·exact Zm 0x18
 split<;>omega
def iE (n u:Nat)(row:List Int)(i:Nat):Prop:=row.getD i 0<0∨(n:Int)≤row.getD i 0∨row.getD i 0=(u:Int)∨(0<i∧row.getD i 0≤row.getD (i-1) 0)
instance (n u:Nat)(row:List Int)(i:Nat):Decidable (iE n u row i):=by unfold iE;infer_instance
def iA (n u:Nat)(row:List Int):Bool:=(List.range row.length).all fun i=>decide ¬iE n u row i
def cw (ls:List (List Int)):Bool:=(List.range ls.length).all fun u=>iA ls.length u (ls.getD u [])
theorem nY {n u:Nat}{row:List Int}(h:∀ i,i<row.length→¬iE n u row i):iA n u row=true:=by
 simp only [iA,List.all_eq_true,List.mem_range,decide_eq_true_eq];exact Zm 0x22e
theorem nZ {n u:Nat}{row:List Int}(h:iA n u row=true){i:Nat}(hi:i<row.length):¬iE n u row i:=by
 simp only [iA,List.all_eq_true,List.mem_range,decide_eq_true_eq] at h
 exact h i hi
theorem CS {n u i:Nat}{row:List Int}(hi:i<row.length)(h:iE n u row i):iA n u row=false:=by
 cases hc:iA n u row with
 |false=>rfl
 |true=>exact absurd h (nZ hc hi)
theorem nW {ls:List (List Int)}(h:∀ u,u<ls.length→iA ls.length u (ls.getD u [])=true):cw ls=true:=by
 simp only [cw,List.all_eq_true,List.mem_range];exact Zm 0x22e
theorem nX {ls:List (List Int)}(h:cw ls=true){u:Nat}(hu:u<ls.length):iA ls.length u (ls.getD u [])=true:=by
 simp only [cw,List.all_eq_true,List.mem_range] at h
 exact h u hu
theorem CP {ls:List (List Int)}{u:Nat}(hu:u<ls.length)(h:iA ls.length u (ls.getD u [])=false):cw ls=false:=by
 cases hc:cw ls with
 |false=>rfl
 |true=>rw [nX hc hu] at h;cases h
def NI (l:List Nat):List Int:=l.map fun (t:Nat)=>(t:Int)
theorem bp (l:List Nat):(NI l).length=l.length:=by simp [NI]
theorem Fz (a b:List Nat):NI (a++b)=NI a++NI b:=by simp [NI]
theorem fI (l:List Nat)(t:Nat):(NI l).contains (t:Int)=l.contains t:=by
 rw [Bool.eq_iff_iff,List.contains_iff_mem,List.contains_iff_mem]
 simp only [NI,List.mem_map]
 constructor
 ·apply Y 0xd50f;intro a h e;obtain rfl:a=t:=oe;exact Zm 0x22e
 exact fun h=>⟨t,h,rfl⟩
def r6 (n:Nat)(p:Nat→Nat→Bool)(st:Nat→Bool)(out:List Nat)(t:Nat):Bool:= !out.contains t&&(st t||(List.range n).all fun u=> !p u t||out.contains u)
def frs (n:Nat)(p:Nat→Nat→Bool)(st:Nat→Bool):Nat→List Nat
  |0=>[]
  |k+1=>match (List.range n).find? (r6 n p st (frs n p st k)) with
    |none=>frs n p st k
    |some t=>frs n p st k++[t]
section
variable {n:Nat}{p:Nat→Nat→Bool}{st:Nat→Bool}
theorem Dq {k:Nat}(h:∀ t,t<n→r6 n p st (frs n p st k) t=false):frs n p st (k+1)=frs n p st k:=by
 have e:(List.range n).find? (r6 n p st (frs n p st k))=none:=by
  apply Y 0x321f;intro t ht;rw [h t (List.mem_range.1 ht)];exact Zm 0x2ae
 rw [frs,e]
theorem sG {q:Nat→Bool}{n t:Nat}(h1:∀ i,i<t→q i=false)(ht:t<n)(h2:q t=true):(List.range n).find? q=some t:=by
 rw [List.find?_range_eq_some];exact ⟨h2,List.mem_range.2 ht,fun j hj=>by rw [h1 j hj];rfl⟩
theorem Dp {k t:Nat}(h1:∀ i,i<t→r6 n p st (frs n p st k) i=false)(ht:t<n)(h2:r6 n p st (frs n p st k) t=true):frs n p st (k+1)=frs n p st k++[t]:=by
 rw [frs,sG h1 ht h2]
theorem G1 (k:Nat):(frs n p st k).length≤k:=by
 induction k with
 |zero=>exact Nat.le_refl _
 |succ k ih=>
  rw [frs]
  split
  ·exact Zm 0x18
  apply Y 0x7f1f
  simp
  exact ih
theorem gX (k:Nat):∀ t∈frs n p st k,t<n:=by
 induction k with
 |zero=>intro t h;cases h
 |succ k ih=>
  intro t ht;rw [frs] at ht
  split at ht
  ·exact ih t ht
  rename_i s hs
  rcases List.mem_append.1 ht with h|h
  ·exact ih t h
  obtain rfl:=List.mem_singleton.1 h
  exact List.mem_range.1 (List.mem_of_find?_eq_some hs)
end
def mem (m t:Nat):List Nat:=(List.range t).filter m.testBit
theorem I2 {m t:Nat}(h:m.testBit t=false):mem m (t+1)=mem m t:=by simp [mem,List.range_succ,List.filter_append,h]
theorem si (m t:Nat):(mem m t).length≤t:=by
 have:=List.length_filter_le m.testBit (List.range t)
 rwa [List.length_range] at this
theorem zB {m t:Nat}(h:∀ i,t≤i→m.testBit i=false):∀ d,mem m (t+d)=mem m t
  |0=>rfl
  |d+1=>by rw [← Nat.add_assoc,I2 (h _ (Nat.le_add_right _ _)),zB h d]
section
variable {n u j:Nat}{ls:List (List Int)}{ms:List Nat}
end
section
variable {n k t d S:Nat}{p:Nat→Nat→Bool}{st:Nat→Bool}{out:List Nat}
end
def BG (ls:List (List Int))(dn sn:List Int)(t:Nat):Bool:=sn.contains (t:Int)||(List.range ls.length).all fun u=>decide (u=t)|| !(ls.getD u []).contains (t:Int)||dn.contains (u:Int)
theorem Hn {ls:List (List Int)}{dn sn:List Int}{t u:Nat}(hs:sn.contains (t:Int)=false)(hu:u<ls.length)(h:(decide (u=t)|| !(ls.getD u []).contains (t:Int)||dn.contains (u:Int))=false):BG ls dn sn t=false:=by
 unfold BG;rw [hs,Bool.false_or]
 cases hc:((List.range ls.length).all fun u=>decide (u=t)|| !(ls.getD u []).contains (t:Int)||dn.contains (u:Int)) with
 |false=>rfl
 |true=>
  have:=List.all_eq_true.1 hc u (List.mem_range.2 hu);rw [h] at this
  cases this
theorem DS {ls:List (List Int)}{dn sn:List Int}{t:Nat}(h:∀ u,u<ls.length→(decide (u=t)|| !(ls.getD u []).contains (t:Int)||dn.contains (u:Int))=true):BG ls dn sn t=true:=by
 unfold BG;rw [List.all_eq_true.2 (fun u hu=>h u (List.mem_range.1 hu)),Bool.or_true]
theorem Hm {ls:List (List Int)}{dn sn:List Int}{t:Nat}(h:sn.contains (t:Int)=true):BG ls dn sn t=true:=by
 unfold BG;rw [h,Bool.true_or]
def rdP (ls:List (List Int))(u t:Nat):Bool:=(ls.getD u []).contains (t:Int)
theorem CT {ls:List (List Int)}(h:cw ls=true){t:Nat}(ht:t<ls.length):rdP ls t t=false:=by
 unfold rdP;refine lq (fun i hi=>?_);have:=nZ (nX h ht) hi
 unfold iE at this;exact Zm 0x18
theorem Gs {ls:List (List Int)}(h:cw ls=true){sn:List Int}{out:List Nat}{t:Nat}(ht:t<ls.length):
    r6 ls.length (rdP ls) (fun t=>sn.contains (t:Int)) out t=(!(NI out).contains (t:Int)&&BG ls (NI out) sn t):=by
 unfold r6 BG;rw [fI]
 congr 2;rw [Bool.eq_iff_iff,List.all_eq_true,List.all_eq_true];refine forall_congr' fun u=>forall_congr' fun hu=>?_
 rw [fI]
 by_cases e:u=t
 ·subst e;rw [CT h ht];exact Zm 0x81e
 simp [e,rdP]
def stL:Nat→Nat→Nat→List (List Nat)
  |0,_,_=>[[]]
  |k+1,f,n=>(List.range' f (n-f)).flatMap fun t=>(stL k (t+1) n).map (t:: ·)
def stP (k f n d:Nat):List (List Nat):=(List.range' f d).flatMap fun t=>(stL k (t+1) n).map (t:: ·)
theorem B4 (k f n:Nat):stP k f n 0=[]:=rfl
theorem lR (k f n d:Nat):stP k f n (d+1)=stP k f n d++(stL k (f+d+1) n).map ((f+d):: ·):=by
 simp [stP,List.range'_concat]
theorem rE (k f n:Nat):stP k f n (n-f)=stL (k+1) f n:=rfl
theorem lS:∀ (k f n:Nat),(stL k f n).length≤2^(n-f)
  |0,_,_=>Nat.one_le_two_pow
  |k+1,f,n=>by
    have key:∀ d,d≤n-f→(stP k f n d).length+2^(n-(f+d))≤2^(n-f):=by
      intro d
      induction d with
      |zero=>
        intro _
        rw [B4]
        simp
      |succ d ih=>
        intro hd
        have h1:=ih oe
        have h2:=lS k (f+d+1) n
        rw [lR,List.length_append,List.length_map]
        rw [show n-(f+d)=n-(f+d+1)+1 from by omega,Nat.pow_succ] at h1
        rw [show f+(d+1)=f+d+1 from by omega]
        omega
    have:=key (n-f) (Nat.le_refl _)
    rw [rE] at this
    exact Nat.le_trans (Nat.le_add_right _ _) this
theorem xG (k f n d:Nat)(h:d≤n-f):(stP k f n d).length≤2^(n-f):=by
 have e:(stL (k+1) f n)=stP k f n d++(List.range' (f+d) (n-f-d)).flatMap fun t=>(stL k (t+1) n).map (t:: ·):=by
  rw [← rE]
  unfold stP;rw [← List.flatMap_append,List.range'_append_1,show d+(n-f-d)=n-f from by omega]
 have h2:=lS (k+1) f n;rw [e,List.length_append] at h2;exact Zm 0x18
theorem iH:∀ (k f n:Nat),∀ l∈stL k f n,l.length=k
  |0,_,_,l,h=>by
    obtain rfl:=List.mem_singleton.1 h
    rfl
  |k+1,f,n,l,h=>by
    simp only [stL,List.mem_flatMap,List.mem_map] at h
    obtain ⟨t,_,l',h',rfl⟩:=h
    rw [List.length_cons,iH k _ _ l' h']
def NL (ls:List (List Nat)):List (List Int):=ls.map NI
theorem kH (ls:List (List Nat)):(NL ls).length=ls.length:=by simp [NL]
theorem Fx (a b:List (List Nat)):NL (a++b)=NL a++NL b:=by simp [NL]
theorem re {ls:List (List Nat)}{i:Nat}(h:i<ls.length):(NL ls).getD i []=NI (ls.getD i []):=by simp [NL,h]
theorem xI {k f n i:Nat}(h:i<(stL k f n).length):((NL (stL k f n)).getD i []).length=k:=by
 rw [re h,bp]
 exact iH k f n _ (by simp [h])
def stQ (k f n d i:Nat):List (List Nat):=stP k f n d++((stL k (f+d+1) n).take i).map ((f+d):: ·)
theorem iG (k f n d:Nat):stQ k f n d 0=stP k f n d:=by simp [stQ]
theorem B3 {k f n d i:Nat}(h:i<(stL k (f+d+1) n).length):stQ k f n d (i+1)=stQ k f n d i++[(f+d)::(stL k (f+d+1) n).getD i []]:=by
 unfold stQ;rw [aB _ [] i h,List.map_append,List.append_assoc];exact Zm 0x2
theorem FO {k f n d i:Nat}(h:(stL k (f+d+1) n).length≤i):stQ k f n d i=stP k f n (d+1):=by
 unfold stQ;rw [List.take_of_length_le h,lR]
theorem FN {k f n d i:Nat}(h:d+1≤n-f):(stQ k f n d i).length≤2^(n-f):=by
 have:=xG k f n (d+1) h;rw [lR,List.length_append,List.length_map] at this
 unfold stQ;rw [List.length_append,List.length_map,List.length_take];exact Zm 0x18
theorem eh {n f:Nat}(h:n≤16):2^(n-f)≤65536:=Nat.le_trans (Nat.pow_le_pow_right ob (show n-f≤16 by omega)) ob
def gz (n:Nat)(p:Nat→Nat→Bool)(st:Nat→Bool):Bool:=(frs n p st n).length==n
def bst (n:Nat)(p:Nat→Nat→Bool)(k:Nat):Nat→Option (List Nat)
  |0=>none
  |s+1=>if (mem s 64).length=k∧(∀ b,bst n p k s=some b→¬mT (NI (mem s 64)) (NI b)>0)∧gz n p s.testBit=true then some (mem s 64) else bst n p k s
def iJ (g:Nat→Option (List Nat)):Nat→Option (List Nat)
  |0=>none
  |k+1=>match iJ g k with
    |some x=>some x
    |none=>g k
theorem xL {g:Nat→Option (List Nat)}{k:Nat}(h:iJ g k=none)(h2:g k=none):iJ g (k+1)=none:=by rw [iJ,h];exact h2
theorem nE {g:Nat→Option (List Nat)}{k:Nat}{x:List Nat}(h:iJ g k=some x):∀ d,iJ g (k+d)=some x
  |0=>h
  |d+1=>by rw [← Nat.add_assoc,iJ,nE h d]
theorem vK {g:Nat→Option (List Nat)}{k m:Nat}{x:List Nat}(h:iJ g k=none)(h2:g k=some x)(hk:k<m):iJ g m=some x:=by
 have h3:iJ g (k+1)=some x:=by rw [iJ,h];exact h2
 have:=nE h3 (m-(k+1))
 rwa [show k+1+(m-(k+1))=m from by omega] at this
def sqO (n:Nat)(p:Nat→Nat→Bool):Option (List Nat)→List Nat
  |none=>[]
  |some l=>frs n p (fun t=>l.contains t) n
section
variable {n k s:Nat}{p:Nat→Nat→Bool}
theorem sj {m t:Nat}(hm:m<18446744073709551616):(mem m 64).contains t=m.testBit t:=by
 rw [Bool.eq_iff_iff,List.contains_iff_mem]
 simp only [mem,List.mem_filter,List.mem_range];refine ⟨fun h=>h.2,fun h=>⟨?_,h⟩⟩
 rcases Nat.lt_or_ge t 64 with h1|h1
 ·exact h1
 rw [Nat.testBit_lt_two_pow (by have:=Nat.pow_le_pow_right (n:=2) ob h1;omega)] at h
 cases h
theorem jZ {st st':Nat→Bool}(h:∀ t,st t=st' t):∀ k,frs n p st k=frs n p st' k:=by
 have:st=st':=funext h;subst this
 exact fun _=>rfl
theorem FP {m:Nat}(hm:m<18446744073709551616):sqO n p (some (mem m 64))=frs n p m.testBit n:=jZ (fun _=>sj hm) n
theorem iX {st:Nat→Bool}:gz n p st=true↔(frs n p st n).length=n:=by unfold gz;exact beq_iff_eq
theorem G0 {st:Nat→Bool}:gz n p st=false↔(frs n p st n).length≠n:=by unfold gz;exact beq_eq_false_iff_ne
end
def EW (ls:List (List Int)):Option (List Nat):=iJ (fun k=>bst ls.length (rdP ls) k (2^ls.length)) (ls.length+1)
def IM (ls:List (List Int)):Option (List Nat):=if cw ls=true∧ls.length≤16 then EW ls else none
def M5 (ls:List (List Int)):Int:=if cw ls=true then (if ls.length≤16 then 0 else 2) else 1
def uq (ls:List (List Int)):List Nat:=sqO ls.length (rdP ls) (IM ls)
def ur (ls:List (List Int)):List Nat:=(IM ls).getD []
section
variable {ls:List (List Int)}
theorem rY (h:cw ls=true)(h2:ls.length≤16):IM ls=EW ls:=if_pos ⟨h,h2⟩
theorem Gl (h:cw ls=true)(h2:ls.length≤16):uq ls=sqO ls.length (rdP ls) (EW ls):=by unfold uq;rw [rY h h2]
theorem Gm (h:cw ls=true)(h2:ls.length≤16):ur ls=(EW ls).getD []:=by unfold ur;rw [rY h h2]
theorem IN (h:cw ls=true)(h2:ls.length≤16):M5 ls=0:=by unfold M5;rw [if_pos h,if_pos h2]
end
theorem Ac {α:Type}{q:α→Bool}{d:α}:∀ {l:List α} {i:Nat},(∀ j,j<i→q (l.getD j d)=false)→i<l.length→q (l.getD i d)=true→l.find? q=some (l.getD i d)
  |[],_,_,h,_=>absurd h (Nat.not_lt_zero _)
  |x::l,0,_,_,h=>by
    have:q x=true:=h
    simp [this]
  |x::l,i+1,h1,h2,h3=>by
    have h0:q x=false:=h1 0 (Nat.succ_pos _)
    have:=Ac (l:=l) (i:=i) (d:=d) (fun j hj=>h1 (j+1) (Nat.succ_lt_succ hj)) (Nat.lt_of_succ_lt_succ h2) h3
    simp only [List.find?_cons,h0]
    exact this
theorem Dx {α:Type}{q:α→Bool}{d:α}{l:List α}(h:∀ j,j<l.length→q (l.getD j d)=false):l.find? q=none:=by
 apply Y 0x321f;intro x hx;obtain ⟨i,hi,rfl⟩:=List.mem_iff_getElem.1 hx;have:=h i hi
 simp only [List.getD_eq_getElem?_getD,List.getElem?_eq_getElem hi,Option.getD_some] at this;rw [this];exact Zm 0x2ae
def mJ (n:Nat)(p:Nat→Nat→Bool)(l:List Nat):Bool:=gz n p (fun t=>l.contains t)
def M3 (ls:List (List Int)):Option (List Nat):=iJ (fun k=>(stL k 0 ls.length).find? (mJ ls.length (rdP ls))) (ls.length+1)
def ym (ls:List (List Int)):Option (List Nat):=if cw ls=true∧ls.length≤16 then M3 ls else none
def Gc (ls:List (List Int)):Int:=if cw ls=true then (if (ym ls).isSome=true then 0 else 2) else 1
def EK (ls:List (List Int)):List Nat:=sqO ls.length (rdP ls) (ym ls)
def EL (ls:List (List Int)):List Nat:=(ym ls).getD []
section
variable {ls:List (List Int)}
theorem yl (h:cw ls=false∨16<ls.length):ym ls=none:=by
 unfold ym;rw [if_neg];apply Y 0xdee;intro h1 h2
 rcases h with h|h
 ·rw [h] at h1
  cases h1
 exact Zm 0x18
theorem yj (h:cw ls=true)(h2:ls.length≤16):ym ls=M3 ls:=if_pos ⟨h,h2⟩
theorem l3 (h:ym ls=none):EK ls=[]∧EL ls=[]∧Gc ls=if cw ls=true then 2 else 1:=by
 unfold EK EL Gc;rw [h];exact Zm 0x53e
theorem CF {l:List Nat}(h1:cw ls=true)(h:ym ls=some l):EK ls=frs ls.length (rdP ls) (fun t=>l.contains t) ls.length∧EL ls=l∧Gc ls=0:=by
 unfold EK EL Gc;rw [h,if_pos h1];exact Zm 0x53e
theorem Pz {L:List (List Nat)}{i:Nat}(h:i<L.length)(t:Nat):((NL L).getD i []).contains (t:Int)=(L.getD i []).contains t:=by rw [re h,fI]
end
structure Po where
  k:Int
  fr:Int
  ln:Int
  b:UInt8
def Po.cells (x:Po):List Value:=[.int .i64 x.k,.int .i64 x.fr,.int .i64 x.ln,.int .u8 (x.b.toNat:Int),.slice none 0 0]
def Po.zero:Po:=⟨0,0,0,0⟩
def bZ (l:List Po):List Value:=l.flatMap Po.cells
theorem C2 (l:List Po):(bZ l).length=l.length*5:=by
 induction l with
 |nil=>rfl
 |cons r l ih=>rw [show bZ (r::l)=r.cells++bZ l from rfl,List.length_append,ih];simp [Po.cells];omega
theorem ml:∀ (l:List Po) (k:Nat),k<l.length→((bZ l).drop (k*5)).take 5=(l.getD k Po.zero).cells
  |[],_,h=>absurd h (Nat.not_lt_zero _)
  |_::_,0,_=>rfl
  |_::l,k+1,h=>by
    rw [show (k+1)*5=k*5+5 from by omega]
    exact ml l k qD
theorem mj {l:List Po}{k:Nat}(hk:k<l.length):0<(bZ l).length:=by rw [C2];omega
theorem mm (a b:List Po):bZ (a++b)=bZ a++bZ b:=by simp [bZ]
def zL (x:Po)(size:Int):Bool:=decide (0≤x.fr∧x.fr≤size-x.ln)
def bJ (x:Po)(size:Int):Bool:=
  if x.k=1 then zL x size&&decide ((x.b.toNat:Int)=0) else if x.k=2 then zL x size&&decide ((x.b.toNat:Int)=0)&&decide (x.ln=0) else if x.k=3 then decide (x.fr=0) else if x.k=4 then decide (x.fr=0)&&decide ((x.b.toNat:Int)=0)&&decide (x.ln=0) else false
def dm (x:Po)(t1 t2 t3 t4 t0:Nat):Nat:=if x.k=1 then t1 else if x.k=2 then t2 else if x.k=3 then t3 else if x.k=4 then t4 else t0
def eL (x:Po):Value:=if x.k=1∨x.k=2∨x.k=3∨x.k=4 then .agg (List.toArray x.cells) else .agg (List.toArray [])
def eO (size:Int):Int→List Po→Bool
  |left,[]=>decide (left≤0)
  |left,x::xs=>if x.ln<1∨left<x.ln∨bJ x size=false then false else eO size (left-x.ln) xs
def cG (inn out:Int)(l:List Po):Int:=if min inn out<0∨65536<max inn out∨4096<l.length then 60 else if eO inn out l=true then 0 else 60
theorem Aj {l:List Po}{i:Nat}(h:i<l.length):l.drop i=l.getD i Po.zero::l.drop (i+1):=by
 rw [List.drop_eq_getElem_cons h];exact Zm 0x331f
theorem kf {size left:Int}{l:List Po}{i:Nat}(h:i<l.length)(hb:(l.getD i Po.zero).ln<1∨left<(l.getD i Po.zero).ln∨bJ (l.getD i Po.zero) size=false):eO size left (l.drop i)=false:=by
 rw [Aj h,eO,if_pos hb]
theorem pS {size left:Int}{l:List Po}{i:Nat}(h:i<l.length)(h1:¬(l.getD i Po.zero).ln<1)(h2:¬left<(l.getD i Po.zero).ln)(h3:bJ (l.getD i Po.zero) size=true):eO size left (l.drop i)=eO size (left-(l.getD i Po.zero).ln) (l.drop (i+1)):=by
 rw [Aj h,eO,if_neg (by
  rintro (q|q|q)
  ·exact h1 q
  ·exact h2 q
  ·rw [h3] at q;cases q)]
theorem iY {size left:Int}{l:List Po}{i:Nat}(h:l.length≤i):eO size left (l.drop i)=decide (left≤0):=by
 rw [List.drop_eq_nil_of_le h,eO]
structure Sy where
  old:Bool
  at_:Int
  b:UInt8
  deriving DecidableEq
def Sy.cells (s:Sy):List Value:=[.bool s.old,.int .i64 s.at_,.int .u8 (s.b.toNat:Int)]
def Sy.zero:Sy:=⟨false,0,0⟩
def cU (l:List Sy):List Value:=l.flatMap Sy.cells
theorem xl (l:List Sy):(cU l).length=l.length*3:=by
 induction l with
 |nil=>rfl
 |cons r l ih=>rw [show cU (r::l)=r.cells++cU l from rfl,List.length_append,ih];simp [Sy.cells];omega
theorem ek:∀ (l:List Sy) (k:Nat),k<l.length→((cU l).drop (k*3)).take 3=(l.getD k Sy.zero).cells
  |[],_,h=>absurd h (Nat.not_lt_zero _)
  |_::_,0,_=>rfl
  |_::l,k+1,h=>by
    rw [show (k+1)*3=k*3+3 from by omega]
    exact ek l k qD
theorem dA {l:List Sy}{k:Nat}(hk:k<l.length):0<(cU l).length:=by rw [xl];omega
theorem xm (a b:List Sy):cU (a++b)=cU a++cU b:=by simp [cU]
def nw (x:Po)(i:Nat):Sy:=if x.k=1 then ⟨true,x.fr+(i:Int),0⟩ else ⟨false,0,x.b⟩
def kO (x:Po)(m:Nat):List Sy:=(List.range m).map (nw x)
theorem lO (x:Po)(m:Nat):(kO x m).length=m:=by simp [kO]
theorem xo (x:Po)(m:Nat):kO x (m+1)=kO x m++[nw x m]:=by simp [kO,List.range_succ]
def ah (l:List Po):List Sy:=l.flatMap fun x=>kO x x.ln.toNat
theorem ny (l:List Po)(i:Nat)(h:i<l.length):ah (l.take (i+1))=ah (l.take i)++kO (l.getD i Po.zero) (l.getD i Po.zero).ln.toNat:=by
 rw [aB l Po.zero i h]
 simp [ah]
theorem ve {size:Int}:∀ (l:List Po) (left:Int),0≤left→eO size left l=true→((ah l).length:Int)≤left
  |[],left,h0,_=>h0
  |x::l,left,h0,h=>by
    rw [eO] at h
    split at h
    · cases h
    · rename_i hb
      have ih:=ve l (left-x.ln) oe h
      rw [show ah (x::l)=kO x x.ln.toNat++ah l from rfl,List.length_append,lO]
      omega
theorem BV (l:List Po)(i j:Nat)(h:i<l.length)(hj:j≤(l.getD i Po.zero).ln.toNat):(ah (l.take i)++kO (l.getD i Po.zero) j).length≤(ah l).length:=by
 have e:ah l=ah (l.take (i+1))++ah (l.drop (i+1)):=by
  unfold ah;rw [← List.flatMap_append,List.take_append_drop]
 rw [e,ny l i h]
 simp only [List.length_append,lO];exact Zm 0x18
theorem mX {size:Int}:∀ (l:List Po) (left:Int),eO size left l=true→∀ i,i<l.length→1≤(l.getD i Po.zero).ln∧(l.getD i Po.zero).ln≤left∧bJ (l.getD i Po.zero) size=true
  |x::l,left,h,i,hi=>by
    rw [eO] at h
    split at h
    · cases h
    · rename_i hb
      cases i with
      |zero=>
        show 1≤x.ln∧x.ln≤left∧bJ x size=true
        refine ⟨by omega,by omega,?_⟩
        cases hr:bJ x size with
        |true=>rfl
        |false=>exact absurd (.inr (.inr hr)) hb
      |succ i=>
        have:=mX l (left-x.ln) h i (Nat.lt_of_succ_lt_succ hi)
        show 1≤(l.getD i Po.zero).ln∧(l.getD i Po.zero).ln≤left∧bJ (l.getD i Po.zero) size=true
        exact ⟨this.1,by omega,this.2.2⟩
def syS (inn out:Int)(l:List Po):List Sy:=if cG inn out l=0 then ah l else []
theorem BU (x:Po)(i:Nat):∀ v∈(nw x i).cells,v.oneCell'=true:=by
 intro v hv
 simp only [Sy.cells,List.mem_cons,List.not_mem_nil,or_false] at hv
 rcases hv with rfl|rfl|rfl<;>rfl
theorem fT {inn out:Int}{l:List Po}(h:cG inn out l=0):0≤inn∧inn≤65536∧0≤out∧out≤65536∧l.length≤4096∧eO inn out l=true:=by
 unfold cG at h
 split at h
 ·cases h
 split at h
 ·rename_i h1 h2;exact ⟨by omega,by omega,by omega,by omega,by omega,h2⟩
 cases h
def EE (old:List UInt8)(s:Sy):UInt8:=if s.old=true then s.b+old.getD s.at_.toNat 0 else s.b
def bg (old:List UInt8)(l:List Sy):List UInt8:=l.map (EE old)
def Co (old:List UInt8)(l:List Sy):Prop:=∀ i,i<l.length→(l.getD i Sy.zero).old=true→0≤(l.getD i Sy.zero).at_∧(l.getD i Sy.zero).at_<(old.length:Int)
theorem lW (old:List UInt8)(l:List Sy):(bg old l).length=l.length:=List.length_map _
theorem x1 (old:List UInt8)(l:List Sy){i:Nat}(h:i<l.length):bg old (l.take (i+1))=bg old (l.take i)++[EE old (l.getD i Sy.zero)]:=by
 unfold bg;rw [aB l Sy.zero i h,List.map_append];exact Zm 0x2
def Je (b:List UInt8)(i:Nat):UInt8:=if i<b.length then b.getD i 0 else UInt8.ofNat (7*i%256)
def nm (b:List UInt8)(n:Nat):List UInt8:=(List.range n).map (Je b)
theorem uO (b:List UInt8)(n:Nat):(nm b n).length=n:=by simp [nm]
theorem zN (b:List UInt8)(n:Nat):nm b (n+1)=nm b n++[Je b n]:=by simp [nm,List.range_succ]
def atL (n:Nat)(seq:List Int):Nat→List Int
  |0=>List.replicate n (-1)
  |i+1=>(atL n seq i).set (seq.getD i 0).toNat (i:Int)
def PT (n:Nat)(seq:List Int)(i:Nat):Prop:=seq.getD i 0<0∨(n:Int)≤seq.getD i 0∨0≤(atL n seq i).getD (seq.getD i 0).toNat 0
instance (n:Nat)(seq:List Int)(i:Nat):Decidable (PT n seq i):=by unfold PT;infer_instance
end Go.Sl
