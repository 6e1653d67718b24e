/-
  Part of a proof.
-/
import Derived.Test.YtbpddeiogcgegaaGreatYSlM
import Derived.Test.YtbpddeiogcgegaaGreatYPs
set_option maxHeartbeats 0
set_option maxRecDepth 4000
set_option linter.all false
namespace Go.Sl
theorem nT:∀ (k f n:Nat) (l:List Nat),l∈stL k f n↔l.length=k∧l.Pairwise (· < ·)∧∀ x∈l,f≤x∧x<n
  |0,f,n,l=>by
    simp only [stL,List.mem_singleton]
    constructor
    · rintro rfl
      exact ⟨rfl,List.Pairwise.nil,fun x hx=>by cases hx⟩
    · rintro ⟨h,_⟩
      exact List.length_eq_zero_iff.1 h
  |k+1,f,n,l=>by
    simp only [stL,List.mem_flatMap,List.mem_map,List.mem_range'_1]
    constructor
    · rintro ⟨t,ht,l',hl',rfl⟩
      obtain ⟨h1,h2,h3⟩:=(nT k (t+1) n l').1 hl'
      refine ⟨by rw [List.length_cons,h1],List.pairwise_cons.2 ⟨fun x hx=>by have:=h3 x hx;omega,h2⟩,fun x hx=>?_⟩
      rcases List.mem_cons.1 hx with rfl|hx
      · omega
      · have:=h3 x hx
        omega
    · rintro ⟨h1,h2,h3⟩
      cases l with
      |nil=>cases h1
      |cons t l=>
        have ht:=h3 t Ob
        refine ⟨t,by omega,l,(nT k (t+1) n l).2 ⟨by simpa using h1,(List.pairwise_cons.1 h2).2,fun x hx=>?_⟩,rfl⟩
        have h4:=(List.pairwise_cons.1 h2).1 x hx
        have h5:=h3 x obG
        omega
theorem zd:∀ (k f n:Nat),(stL k f n).Pairwise fun a b=>n9 (NI a) (NI b)<0
  |0,_,_=>List.pairwise_singleton _ _
  |k+1,f,n=>by
    rw [stL,List.pairwise_flatMap]
    refine ⟨fun t _=>?_,?_⟩
    · rw [List.pairwise_map]
      refine (zd k (t+1) n).imp fun {a b} h=>?_
      show n9 ((t:Int)::NI a) ((t:Int)::NI b)<0
      rw [n9,if_pos (sZ.2 rfl)]
      exact h
    · refine (List.pairwise_lt_range' (s:=f) (n:=n-f)).imp fun {t u} h=>?_
      intro x hx y hy
      obtain ⟨a,_,rfl⟩:=List.mem_map.1 hx
      obtain ⟨b,_,rfl⟩:=List.mem_map.1 hy
      show n9 ((t:Int)::NI a) ((u:Int)::NI b)<0
      have e:GE (t:Int) (u:Int)= -1:=by
        unfold GE
        rw [if_pos oe]
      rw [n9,e,if_neg ob]
      decide
theorem zn:∀ (n:Nat) (l:List Nat),l.Pairwise (· < ·)→(∀ x∈l,x<n)→∃ s,s<2^n∧mem s n=l
  |0,l,_,h=>by
    refine ⟨0,by decide,?_⟩
    cases l with
    |nil=>rfl
    |cons x l=>exact absurd (h x Ob) (Nat.not_lt_zero _)
  |n+1,l,hp,h=>by
    have hs:∀ s,mem s (n+1)=mem s n++(if s.testBit n=true then [n] else []):=by
      intro s
      unfold mem
      rw [List.range_succ,List.filter_append]
      by_cases q:s.testBit n=true<;>simp [q]
    by_cases hn:n∈l
    · have hne:l≠[]:=List.ne_nil_of_mem hn
      have hl:=List.dropLast_concat_getLast hne
      have hp2:=hp
      rw [← hl,List.pairwise_append] at hp2
      obtain ⟨q1,_,q3⟩:=hp2
      have hlast:l.getLast hne=n:=by
        have h1:=h _ (List.getLast_mem hne)
        rw [← hl] at hn
        rcases List.mem_append.1 hn with h2|h2
        · have:=q3 n h2 (l.getLast hne) Ob
          omega
        · exact (List.mem_singleton.1 h2).symm
      obtain ⟨s,h1,h2⟩:=zn n l.dropLast q1 (fun x hx=>by
        have:=q3 x hx (l.getLast hne) Ob
        omega)
      refine ⟨2^n+s,by rw [Nat.pow_succ];omega,?_⟩
      rw [hs,Nat.testBit_two_pow_add_eq,Nat.testBit_lt_two_pow h1]
      have e:mem (2^n+s) n=mem s n:=by
        unfold mem
        refine List.filter_congr fun i hi=>?_
        exact Nat.testBit_two_pow_add_gt (List.mem_range.1 hi) s
      rw [e,h2]
      show l.dropLast++[n]=l
      rw [← hlast]
      exact hl
    · obtain ⟨s,h1,h2⟩:=zn n l hp (fun x hx=>by
        have:=h x hx
        have:x≠n:=fun e=>hn (e▸hx)
        omega)
      refine ⟨s,by rw [Nat.pow_succ];omega,?_⟩
      rw [hs,Nat.testBit_lt_two_pow h1,h2]
      simp
theorem we (m n:Nat):(mem m n).Pairwise (· < ·):=List.Pairwise.filter _ List.pairwise_lt_range
theorem Dp {n k:Nat}(hn:n≤64):(∀ s,s<2^n→(mem s 64).length=k→mem s 64∈stL k 0 n)∧(∀ l∈stL k 0 n,∃ s,s<2^n∧l=mem s 64)∧List.Pairwise (fun a b=>n9 (NI a) (NI b)<0) (stL k 0 n):=by
 refine ⟨fun s hs hl=>?_,fun l hl=>?_,zd k 0 n⟩
 ·rw [Ba hn hs] at hl ⊢;refine (nT k 0 n _).2 ⟨hl,we _ _,fun x hx=>⟨Nat.zero_le _,?_⟩⟩
  unfold mem at hx
  exact List.mem_range.1 (List.mem_filter.1 hx).1
 obtain ⟨h1,h2,h3⟩:=(nT k 0 n l).1 hl;obtain ⟨s,hs,e⟩:=zn n l h2 fun x hx=>(h3 x hx).2
 exact ⟨s,hs,by rw [Ba hn hs];exact e.symm⟩
theorem DJ {n s:Nat}(hn:n≤16)(hs:s<2^n):s<18446744073709551616:=by
 have:=Nat.pow_le_pow_right (n:=2) ob hn
 omega
theorem x9 {n k:Nat}{p:Nat→Nat→Bool}(hn:n≤16):bst n p k (2^n)=(stL k 0 n).find? (nZ n p):=by
 obtain ⟨c1,c2,c3⟩:=Dp (n:=n) (k:=k) oe
 cases hb:bst n p k (2^n) with
 |none=>
  symm;apply Y 0x440f;intro l hl;obtain ⟨s,hs,rfl⟩:=c2 l hl;rw [ie (DJ hn hs),iy.1 hb s hs (jI k 0 n _ hl)]
  decide
 |some b=>
  obtain ⟨⟨s,h1,rfl,h3,h4⟩,h5⟩:=j4 hb;have hm:=c1 s h1 h3
  cases hf:(stL k 0 n).find? (nZ n p) with
  |none=>
   have:=List.find?_eq_none.1 hf _ hm;rw [ie (DJ hn h1),h4] at this
   exact absurd rfl this
  |some y=>
   obtain ⟨hy,l1,l2,he,hno⟩:=List.find?_eq_some_iff_append.1 hf;rw [he] at hm c3
   rcases List.mem_append.1 hm with h|h
   ·have:=hno _ h;rw [ie (DJ hn h1),h4] at this
    cases this
   rcases List.mem_cons.1 h with h|h
   ·rw [h]
   have h6:=(List.pairwise_cons.1 (List.pairwise_append.1 c3).2.1).1 _ h;have hym:y∈stL k 0 n:=by rw [he];simp
   obtain ⟨s',hs',rfl⟩:=c2 y hym;rw [ie (DJ hn hs')] at hy;have h7:=h5 s' hs' (jI k 0 n _ hym) hy;rw [lA] at h6
   omega
theorem NR {ls:List (List Int)}(hr:cH ls=true)(hn:ls.length≤16):F3 ls=vN ls∧F4 ls=vO ls∧Hv ls=0:=by
 have hR:Gd ls=NQ ls:=mi fun k _=>x9 hn
 have hT:JY ls=zX ls:=by unfold JY zX;rw [hR]
 refine ⟨by unfold vN F3;rw [hT],by unfold vO F4;rw [hT],?_⟩;have h0:∃ b,Gd ls=some b:=by
  cases h:Gd ls with
  |some b=>exact ⟨b,rfl⟩
  |none=>
   exfalso;have h0:=dr.1 h;have hs:2^ls.length-1<2^ls.length:=oaY;have hle:(mem (2^ls.length-1) 64).length≤ls.length:=by rw [Ba oe hs];exact uf _ _
   have:=iy.1 (h0 (mem (2^ls.length-1) 64).length oe) _ hs rfl;rw [wx.2 (Prg.all fun t ht=>by rw [Nat.testBit_two_pow_sub_one];exact decide_eq_true ht)] at this
   cases this
 obtain ⟨b,hb⟩:=h0
 unfold Hv;rw [if_pos hr,← hT,tV hr oe,hb]
 rfl
theorem zL:∀ {l m:List Int},l.Pairwise (· < ·)→m.Pairwise (· < ·)→(∀ x,x∈l↔x∈m)→l=m
  |[],[],_,_,_=>rfl
  |[],b::m,_,_,h=>by have:=(h b).2 Ob;cases this
  |a::l,[],_,_,h=>by have:=(h a).1 Ob;cases this
  |a::l,b::m,h1,h2,h=>by
    obtain ⟨p1,p2⟩:=List.pairwise_cons.1 h1
    obtain ⟨q1,q2⟩:=List.pairwise_cons.1 h2
    have e:a=b:=by
      rcases List.mem_cons.1 ((h a).1 Ob) with g|g
      · exact g
      · rcases List.mem_cons.1 ((h b).2 Ob) with g'|g'
        · exact g'.symm
        · have:=q1 a g
          have:=p1 b g'
          omega
    subst e
    congr 1
    refine zL p2 q2 fun x=>?_
    constructor
    · intro hx
      rcases List.mem_cons.1 ((h x).1 obG) with g|g
      · subst g
        have:=p1 x hx
        omega
      · exact g
    · intro hx
      rcases List.mem_cons.1 ((h x).2 obG) with g|g
      · subst g
        have:=q1 x hx
        omega
      · exact g
theorem nI {α:Type}[DecidableEq α]:∀ {l m:List α},l.Nodup→(∀ x∈l,x∈m)→m.length≤l.length→l.Perm m
  |[],m,_,_,h=>by
    have:m=[]:=List.length_eq_zero_iff.1 qi
    subst this
    exact List.Perm.refl _
  |a::l,m,h1,h2,h=>by
    have ha:=h2 a Ob
    have h3:=List.nodup_cons.1 h1
    have hp:=List.perm_cons_erase ha
    have hl:=hp.length_eq
    refine (List.Perm.cons a (nI h3.2 (fun x hx=>?_) (by simp at hl h;omega))).trans hp.symm
    have hne:x≠a:=fun e=>h3.1 (e▸hx)
    exact (List.mem_erase_of_ne hne).2 (h2 x obG)
def tH (l:List Int):List Int:=l.mergeSort fun x y=>decide (x≤y)
theorem eH (l:List Int):(tH l).Perm l:=List.mergeSort_perm _ _
theorem Ds (l:List Int):(tH l).Pairwise (· ≤·):=by
 have:=List.pairwise_mergeSort (le:=fun x y:Int=>decide (x≤y)) (fun a b c h1 h2=>by simp at*;omega) (fun a b=>by simp;omega) l
 exact this.imp fun h=>by simpa using h
theorem CG {l:List Nat}(h:l.Pairwise (· < ·)):(NI l).Pairwise (· < ·):=by
 unfold NI;rw [List.pairwise_map]
 exact h.imp fun h=>by omega
section
variable {chg:List Nat}{seq:List Int}
theorem kr (hc:chg.Pairwise (· < ·)):tH seq=NI chg↔seq.length=chg.length∧∀ t∈chg,(t:Int)∈seq:=by
 have hr:=CG hc;apply Y 0xd61f;intro hn
 constructor
 ·intro h;have hp:=eH seq;rw [h] at hp;refine ⟨by rw [← hp.length_eq,bb],fun t ht=>hp.mem_iff.1 (List.mem_map.2 ⟨t,ht,rfl⟩)⟩
 ·apply Y 0x7ae;intro h1 h2;have hp:(NI chg).Perm seq:=nI hn (fun x hx=>by
   obtain ⟨t,ht,rfl⟩:=List.mem_map.1 hx
   exact h2 t ht) obW
  have hp2:=(eH seq).trans hp.symm;refine zL ?_ hr fun x=>hp2.mem_iff
  have hnd:(tH seq).Nodup:=hp2.nodup_iff.2 hn;have:=(Ds seq).and hnd
  exact this.imp fun h=>by omega
theorem zf (hc:chg.Pairwise (· < ·))(h:tH seq=NI chg):seq.Nodup:=by
 have hr:=CG hc;apply Y 0xd61f;intro hn;have hp:=eH seq;rw [h] at hp
 exact hp.nodup_iff.1 hn
end
def Em (l:List Int)(i:Nat):List (Int×Value):=(List.range i).map fun j=>(l.getD j 0,.int .i64 (j:Int))
theorem kQ (l:List Int)(i:Nat):Em l (i+1)=Em l i++[(l.getD i 0,.int .i64 (i:Int))]:=by simp [Em,List.range_succ]
theorem ua {l:List Int}{t:Int}:∀ {i:Nat},(∀ j,j<i→l.getD j 0≠t)→gA (Em l i) t=none
  |0,_=>rfl
  |i+1,h=>by
    rw [kQ,wb,ua (fun j hj=>h j oe)]
    have:=h i oe
    simp only [gA]
    rw [if_neg this]
theorem vT {l:List Int}{k:Nat}(hn:∀ i j,i<j→j<l.length→l.getD i 0≠l.getD j 0)(hk:k<l.length):∀ {i:Nat},k<i→i≤l.length→gA (Em l i) (l.getD k 0)=some (.int .i64 (k:Int))
  |0,h,_=>absurd h (Nat.not_lt_zero _)
  |i+1,h,hi=>by
    rw [kQ,wb]
    by_cases e:k=i
    · subst e
      rw [ua (fun j hj=>hn j k hj hk)]
      simp [gA]
    · rw [vT hn hk oe oe]
theorem cK {l:List Int}(h:l.Nodup)(i j:Nat)(hij:i<j)(hj:j<l.length):l.getD i 0≠l.getD j 0:=by
 rw [List.getD_eq_getElem?_getD,List.getD_eq_getElem?_getD,List.getElem?_eq_getElem oe,List.getElem?_eq_getElem hj];intro e;have:=(List.getElem_inj h).1 (by simpa using e)
 omega
theorem ib {l:List Int}{t:Int}(h:t∈l):∃ k:Nat,fe l t=(k:Int)∧k<l.length∧l.getD k 0=t:=by
 have h1:=List.idxOf_lt_length_iff.2 h;refine ⟨l.idxOf t,?_,h1,?_⟩
 ·unfold fe;rw [if_pos (List.contains_iff_mem.2 h)]
 apply Y 0x9a0f
 simp
theorem vU {l:List Int}{t:Int}(hn:l.Nodup)(h:t∈l):gA (Em l l.length) t=some (.int .i64 (fe l t)):=by
 obtain ⟨k,h1,h2,h3⟩:=ib h;rw [h1,← h3]
 exact vT (cK hn) h2 h2 (Nat.le_refl _)
theorem ia {l:List Int}{t:Int}:fe l t<0↔t∉l:=by
 constructor
 ·intro h hm;obtain ⟨k,h1,_⟩:=ib hm
  omega
 intro h
 unfold fe;rw [if_neg (fun g=>h (List.contains_iff_mem.1 g))]
 decide
def stT (chg st:List Int)(i:Nat):Bool:=chg.contains (st.getD i 0)&& !(decide (0<i)&&decide (st.getD (i-1) 0≥st.getD i 0))
def stB (chg st:List Int):Bool:=(List.range st.length).all (stT chg st)
section
variable {l:List Sy}{inn:Int}{S n u t:Nat}{seq st chg:List Int}
def okT (seq st:List Int)(u t:Nat):Bool:=st.contains (t:Int)||decide (fe seq u≤fe seq t)
def okU (l:List Sy)(inn:Int)(S n:Nat)(seq st:List Int)(u:Nat):Bool:=(List.range n).all fun t=> !iH l inn S u t||okT seq st u t
def plB (l:List Sy)(inn:Int)(S n:Nat)(seq st:List Int):Bool:=(List.range n).all (okU l inn S n seq st)
theorem fG {n:Nat}{p:Nat→Bool}(h:∀ k,k<n→p k=true):(List.range n).all p=true:=List.all_eq_true.2 fun k hk=>h k (List.mem_range.1 hk)
theorem lM {n k:Nat}{p:Nat→Bool}(hk:k<n)(h:p k=false):(List.range n).all p=false:=by
 cases hb:(List.range n).all p with
 |false=>rfl
 |true=>
  have:=List.all_eq_true.1 hb k (List.mem_range.2 hk);rw [h] at this
  cases this
theorem HK (h:∀ j,j<((bV l inn S n n).getD u []).length→∀ t:Nat,((bV l inn S n n).getD u []).getD j 0=(t:Int)→okT seq st u t=true)(hu:u<n):okU l inn S n seq st u=true:=by
 refine fG fun t ht=>?_
 cases hr:iH l inn S u t with
 |false=>rfl
 |true=>
  have hc:=nD (l:=l) (inn:=inn) (S:=S) hu ht;rw [hr,List.contains_iff_mem] at hc;obtain ⟨k,_,h2,h3⟩:=ib hc;rw [h k h2 t h3]
  rfl
theorem Ge (hr:iH l inn S u t=true)(ht:t<n)(h:okT seq st u t=false):okU l inn S n seq st u=false:=by
 refine lM (k:=t) ht ?_;rw [hr,h]
 rfl
end
theorem J1 {l:List Sy}{inn:Int}{S n u:Nat}{seq st:List Int}(h:gE l inn S u=false):okU l inn S n seq st u=true:=fG fun t _=>by rw [vC h];rfl
theorem wt {l:List Int}{t:Int}:decide (fe l t<0)= !l.contains t:=by
 rw [Bool.eq_iff_iff,decide_eq_true_eq,ia,Bool.not_eq_true',← Bool.not_eq_true,List.contains_iff_mem]
theorem zb {chg st:List Int}{i:Nat}(h:chg.contains (st.getD i 0)=false):stT chg st i=false:=by unfold stT;rw [h];rfl
theorem za {chg st:List Int}{i:Nat}(h:0<i)(h2:st.getD (i-1) 0≥st.getD i 0):stT chg st i=false:=by unfold stT;rw [decide_eq_true h,decide_eq_true h2];simp
theorem ng {chg st:List Int}{i:Nat}(h:chg.contains (st.getD i 0)=true)(h2:¬0<i):stT chg st i=true:=by unfold stT;rw [h,decide_eq_false h2];rfl
theorem nf {chg st:List Int}{i:Nat}(h:chg.contains (st.getD i 0)=true)(h2:¬st.getD (i-1) 0≥st.getD i 0):stT chg st i=true:=by unfold stT;rw [h,decide_eq_false h2];simp
theorem Gf {seq st:List Int}{u t:Nat}(h:st.contains (t:Int)=false)(h2:fe seq t<fe seq u):okT seq st u t=false:=by unfold okT;rw [h,decide_eq_false oe];rfl
theorem nQ {seq st:List Int}{u t:Nat}(h:st.contains (t:Int)=true):okT seq st u t=true:=by unfold okT;rw [h];rfl
theorem nP {seq st:List Int}{u t:Nat}(h2:¬fe seq t<fe seq u):okT seq st u t=true:=by unfold okT;rw [decide_eq_true oe];simp
def fM (lf:Bool)(sz n inn out:Int)(ops:List Po)(seq st:List Int):Bool:=
  decide (cU inn out ops=0)&& !lf&&lZ sz n inn out&&decide (tH seq=NI (aI (ah ops) inn sz.toNat n.toNat))&&stB (NI (aI (ah ops) inn sz.toNat n.toNat)) st&&plB (ah ops) inn sz.toNat n.toNat seq st
section
variable {lf:Bool}{sz n inn out:Int}{ops:List Po}{seq st:List Int}
theorem fm:fM lf sz n inn out ops seq st=true↔cU inn out ops=0∧lf=false∧lZ sz n inn out=true∧tH seq=NI (aI (ah ops) inn sz.toNat n.toNat)∧stB (NI (aI (ah ops) inn sz.toNat n.toNat)) st=true∧plB (ah ops) inn sz.toNat n.toNat seq st=true:=by
 unfold fM
 simp only [Bool.and_eq_true,decide_eq_true_eq,Bool.not_eq_true']
 constructor
 ·apply Y 0x1d1f;intro a b c d e f;exact ⟨a,b,c,d,e,f⟩
 rintro ⟨a,b,c,d,e,f⟩;exact ⟨⟨⟨⟨⟨a,b⟩,c⟩,d⟩,e⟩,f⟩
theorem mb (h:¬(cU inn out ops=0∧lf=false∧lZ sz n inn out=true∧tH seq=NI (aI (ah ops) inn sz.toNat n.toNat)∧stB (NI (aI (ah ops) inn sz.toNat n.toNat)) st=true∧plB (ah ops) inn sz.toNat n.toNat seq st=true)):fM lf sz n inn out ops seq st=false:=by
 cases hb:fM lf sz n inn out ops seq st with
 |false=>rfl
 |true=>exact absurd (fm.1 hb) h
end
def ctB (b:List UInt8)(i:Nat):UInt8:=if i<b.length then b.getD i 0 else 255
def ctK (b:List UInt8)(a k:Nat):List UInt8:=(List.range k).map fun j=>ctB b (a+j)
def ctF (b:List UInt8)(t S:Nat):List UInt8:=ctK b (t*S) S
theorem lu (b:List UInt8)(a k:Nat):(ctK b a k).length=k:=by simp [ctK]
theorem bU (b:List UInt8)(t S:Nat):(ctF b t S).length=S:=lu _ _ _
theorem EX (b:List UInt8)(a k:Nat):ctK b a (k+1)=ctK b a k++[ctB b (a+k)]:=by simp [ctK,List.range_succ]
theorem BY {b:List UInt8}{t S j:Nat}(h:j<S):(ctF b t S).getD j 0=ctB b (t*S+j):=by
 unfold ctF ctK;rw [List.getD_eq_getElem?_getD,List.getElem?_map,List.getElem?_range h]
 rfl
theorem Iz (b:List UInt8)(a S:Nat):(b.drop (min a b.length)).take (min (b.length-min a b.length) S)++List.replicate (S-min (b.length-min a b.length) S) 255=ctK b a S:=by
 refine aF (d:=0) (by rw [List.length_append,List.length_take,List.length_drop,List.length_replicate,lu];omega) (fun i hi=>?_);rw [List.length_append,List.length_take,List.length_drop,List.length_replicate] at hi;have e:(ctK b a S).getD i 0=ctB b (a+i):=by
  unfold ctK;rw [List.getD_eq_getElem?_getD,List.getElem?_map,List.getElem?_range oe]
  rfl
 rw [e]
 unfold ctB
 by_cases h:a+i<b.length
 ·rw [if_pos h,List.getD_eq_getElem?_getD,List.getElem?_append_left qt,List.getElem?_take_of_lt oe,List.getElem?_drop,Nat.min_eq_left oe,← List.getD_eq_getElem?_getD]
 rw [if_neg h,List.getD_eq_getElem?_getD,List.getElem?_append_right qt,List.length_take,List.length_drop,List.getElem?_replicate,if_pos oe]
 rfl
def ndS (rs:List (Nat×Nat)):Nat:=(rs.map fun r=>4+(r.2-r.1)).sum
theorem iS (a b:List (Nat×Nat)):ndS (a++b)=ndS a+ndS b:=by simp [ndS]
theorem vY (rs:List (Nat×Nat)){k:Nat}(h:k<rs.length):ndS (rs.take (k+1))=ndS (rs.take k)+(4+((rs.getD k (0,0)).2-(rs.getD k (0,0)).1)):=by
 rw [aC rs (0,0) k h,iS]
 simp [ndS]
theorem Es (s:List (Nat×Nat))(i:Nat):ndS (gw s i)≤ndS s+5:=by
 have h0:ndS [(i,i+1)]=5:=by
  show 4+(i+1-i)+0=5
  omega
 unfold gw
 cases h:s.getLast? with
 |none=>
  show ndS (s++[(i,i+1)])≤ndS s+5;rw [iS,h0];exact Zm 0x83e
 |some r=>
  obtain ⟨s',rfl⟩:=List.getLast?_eq_some_iff.1 h
  show ndS (if r.2=i then (s'++[r]).dropLast++[(r.1,i+1)] else (s'++[r])++[(i,i+1)])≤ndS (s'++[r])+5
  split
  ·rename_i hq;rw [List.dropLast_concat,iS,iS]
   show ndS s'+(4+(i+1-r.1)+0)≤ndS s'+(4+(r.2-r.1)+0)+5
   omega
  rw [iS,h0];exact Zm 0x83e
theorem nS (a b:List UInt8):∀ k,ndS (aA a b k)≤5*k
  |0=>Nat.le_refl _
  |k+1=>by
    have ih:=nS a b k
    rw [aA]
    split
    · omega
    · have:=Es (aA a b k) k
      omega
theorem vX (rs:List (Nat×Nat))(k:Nat):ndS (rs.take k)≤ndS rs:=by
 have:=iS (rs.take k) (rs.drop k);rw [List.take_append_drop] at this
 omega
def Hw (o w:List UInt8):Nat:=5+ndS (aA o w o.length)
theorem zZ (o w:List UInt8):Hw o w≤5+5*o.length:=by
 have:=nS o w o.length
 unfold Hw
 omega
def ndR (old new:List UInt8)(S:Nat)(t:Int):Nat:=Hw (ctF old t.toNat S) (ctF new t.toNat S)
def ndT (old new:List UInt8)(S:Nat)(seq:List Int):Nat:=(seq.map (ndR old new S)).sum
def ndG (old new:List UInt8)(S:Nat)(seq:List Int):Nat:=(seq.map (ndR old new S)).foldl max 0
section
variable {old new:List UInt8}{S i:Nat}{seq:List Int}
theorem AN (t:Int):ndR old new S t≤5+5*S:=by
 have:=zZ (ctF old t.toNat S) (ctF new t.toNat S);rw [bU] at this
 exact this
theorem jS (h:i<seq.length):ndT old new S (seq.take (i+1))=ndT old new S (seq.take i)+ndR old new S (seq.getD i 0):=by
 unfold ndT;rw [aC seq 0 i h,List.map_append,List.sum_append]
 simp
theorem vZ (h:i<seq.length):ndG old new S (seq.take (i+1))=max (ndG old new S (seq.take i)) (ndR old new S (seq.getD i 0)):=by
 unfold ndG;rw [aC seq 0 i h,List.map_append,List.foldl_append]
 rfl
theorem AM (hS:S≤4096):∀ i,ndT old new S (seq.take i)≤20485*i
  |0=>by rw [List.take_zero];exact Nat.le_refl _
  |i+1=>by
    have ih:=AM hS i
    by_cases h:i<seq.length
    · rw [jS h]
      have:=AN (old:=old) (new:=new) (S:=S) (seq.getD i 0)
      omega
    · rw [List.take_of_length_le oe] at*
      omega
theorem AO (hS:S≤4096):∀ i,ndG old new S (seq.take i)≤20485
  |0=>by rw [List.take_zero];exact Nat.zero_le _
  |i+1=>by
    have ih:=AO hS i
    by_cases h:i<seq.length
    · rw [vZ h]
      have:=AN (old:=old) (new:=new) (S:=S) (seq.getD i 0)
      omega
    · rw [List.take_of_length_le oe] at*
      omega
end
structure Nd where
  s:Int
  u:Int
  r:Int
  e:Int
  o:Int
  deriving DecidableEq
def ndN (u s k:Nat):Nat:=u+s+5*k+12
def ndW (S:Nat):Nat:=max 1 ((S-8)/30)
def ndU (T S:Nat):Nat:=(T+S-1)/S
def ndQ (n w:Nat):Nat:=n/w
theorem J5 {T S:Nat}:ndU T S≤T+S:=Nat.le_trans (Nat.div_le_self _ _) oe
theorem Gj (n w:Nat):ndQ n w≤n:=Nat.div_le_self _ _
def ndC (n w:Nat):Nat:=ndQ n w+1
def NX (u s k c:Nat):Nat:=u+s+4*k+1+c
def HV (u s k n c:Nat):Nat:=2*u+2*s+9*k+2+n+2*c
def nd5 (u s k S g:Nat):Nd:=⟨(s:Int),(u:Int),((2*S+g:Nat):Int),((NX u s k (ndC (ndN u s k) (ndW S)):Nat):Int),((HV u s k (ndN u s k) (ndC (ndN u s k) (ndW S)):Nat):Int)⟩
def dV (lf:Bool)(sz n inn out:Int)(ops:List Po)(seq st:List Int)(old:List UInt8):Int:=
  if fM lf sz n inn out ops seq st=false then 190 else if (old.length:Int)≠inn then 61 else if 65535<ndT old (a7 old (ah ops)) sz.toNat seq then 2 else 0
def fu (lf:Bool)(sz n inn out:Int)(ops:List Po)(seq st:List Int)(old:List UInt8):Nd:=
  if dV lf sz n inn out ops seq st old=0 then nd5 (ndU (ndT old (a7 old (ah ops)) sz.toNat seq) sz.toNat) st.length seq.length sz.toNat (ndG old (a7 old (ah ops)) sz.toNat seq) else ⟨0,0,0,0,0⟩
section
variable {lf:Bool}{sz n inn out:Int}{ops:List Po}{seq st:List Int}{old:List UInt8}
theorem HT (h:fM lf sz n inn out ops seq st=false):dV lf sz n inn out ops seq st old=190:=by unfold dV;rw [if_pos h]
theorem HS (h:fM lf sz n inn out ops seq st=true)(h2:(old.length:Int)≠inn):dV lf sz n inn out ops seq st old=61:=by unfold dV;rw [if_neg oav,if_pos h2]
theorem HR (h:fM lf sz n inn out ops seq st=true)(h2:(old.length:Int)=inn)(h3:65535<ndT old (a7 old (ah ops)) sz.toNat seq):dV lf sz n inn out ops seq st old=2:=by unfold dV;rw [if_neg oav,if_neg (fun g=>g h2),if_pos h3]
theorem ub (h:fM lf sz n inn out ops seq st=true)(h2:(old.length:Int)=inn)(h3:ndT old (a7 old (ah ops)) sz.toNat seq≤65535):dV lf sz n inn out ops seq st old=0:=by unfold dV;rw [if_neg oav,if_neg (fun g=>g h2),if_neg oe]
theorem vW (h:dV lf sz n inn out ops seq st old≠0):fu lf sz n inn out ops seq st old=⟨0,0,0,0,0⟩:=by unfold fu;rw [if_neg h]
theorem jR (h:dV lf sz n inn out ops seq st old=0):fu lf sz n inn out ops seq st old=nd5 (ndU (ndT old (a7 old (ah ops)) sz.toNat seq) sz.toNat) st.length seq.length sz.toNat (ndG old (a7 old (ah ops)) sz.toNat seq):=by unfold fu;rw [if_pos h]
theorem m3 (h:fM lf sz n inn out ops seq st=true):seq.length=(aI (ah ops) inn sz.toNat n.toNat).length∧∀ i,i<seq.length→∃ t:Nat,seq.getD i 0=(t:Int)∧t<n.toNat∧gE (ah ops) inn sz.toNat t=true:=by
 obtain ⟨_,_,_,h4,_,_⟩:=fm.1 h;have hp:=eH seq;rw [h4] at hp;refine ⟨by rw [← hp.length_eq,bb],fun i hi=>?_⟩;have hm:seq.getD i 0∈seq:=by
  rw [List.getD_eq_getElem?_getD,List.getElem?_eq_getElem hi]
  exact List.getElem_mem hi
 obtain ⟨t,ht,e⟩:=List.mem_map.1 (hp.mem_iff.2 hm);have:=cL.1 ht;exact ⟨t,e.symm,this.1,this.2⟩
end
theorem Jr {S:Nat}:((S:Int)-8).tdiv 30=(((S-8)/30:Nat):Int):=by
 rcases Nat.lt_or_ge S 8 with h|h
 ·have h4:(((S:Int)-8).tdiv 30).natAbs=((S:Int)-8).natAbs/30:=Int.natAbs_tdiv _ 30;have h5:((S:Int)-8).natAbs/30=0:=oe;have h6:(S-8)/30=0:=oe;rw [h5] at h4;rw [h6]
  omega
 rw [show (S:Int)-8=((S-8:Nat):Int) by omega]
 rfl
section
variable {X:Cx}{β:Base}{Γ:Env}{R H:List Pr}
theorem FS {t ty:Nat}{x y:Operand}{a b:Int}{q:Nat}(hx:ev Γ x=some (.int .i64 a))(hy:ev Γ y=some (.int .i64 b))(h0:b=30)(hq:a.tdiv 30=(q:Int))(h1: -9223372036854775808≤a)(h2:a≤9223372036854775807):
    Ev X β Γ R H (.binOp .quo t x y ty) (.int .i64 (q:Int)):=by
 intro ρ w hρ hs o ho;subst h0;rw [← hq];have hb:¬ (30:Int)=0:=ob;have h3:a.tdiv 30≤9223372036854775807∧ -9223372036854775808≤a.tdiv 30:=by
  have h4:(a.tdiv 30).natAbs=a.natAbs/30:=Int.natAbs_tdiv a 30
  omega
 simp [execOp,ho,hρ _ _ hx,hρ _ _ hy,ky,binOp,Op.intDiv,j9 (a:=a.tdiv 30) h3.2 h3.1]
end
def gx (data:List (List UInt8))(fs i:Int):Bool:=decide (0≤i)&&decide (i<(data.length:Int))&&decide (((data.getD i.toNat []).length:Int)=fs)
def ER (data:List (List UInt8))(fs ls sz:Int)(n:Nat)(st lst:List Int):Bool:=
  decide (fs=sz)&&decide (ls=(n:Int))&&decide (st.length≤lst.length)&&((List.range n).all fun t=>gx data fs (t:Int))&&((List.range st.length).all fun i=>gx data fs (lst.getD i 0))
section
variable {data:List (List UInt8)}{fs ls sz i:Int}{n t k:Nat}{st lst:List Int}
theorem DF (h:i<0):gx data fs i=false:=by unfold gx;rw [decide_eq_false oe];rfl
theorem DE (h:(data.length:Int)≤i):gx data fs i=false:=by unfold gx;rw [decide_eq_false (show ¬ i<(data.length:Int) by omega)];simp
theorem DD (h:((data.getD i.toNat []).length:Int)≠fs):gx data fs i=false:=by unfold gx;rw [decide_eq_false h];simp
theorem np (h1:0≤i)(h2:i<(data.length:Int))(h3:((data.getD i.toNat []).length:Int)=fs):gx data fs i=true:=by unfold gx;rw [decide_eq_true h1,decide_eq_true h2,decide_eq_true h3];rfl
theorem vo:gx data fs i=true↔0≤i∧i<(data.length:Int)∧((data.getD i.toNat []).length:Int)=fs:=by
 unfold gx
 simp only [Bool.and_eq_true,decide_eq_true_eq,and_assoc]
theorem uy:ER data fs ls sz n st lst=true↔fs=sz∧ls=(n:Int)∧st.length≤lst.length∧(∀ t,t<n→gx data fs (t:Int)=true)∧∀ i,i<st.length→gx data fs (lst.getD i 0)=true:=by
 unfold ER
 simp only [Bool.and_eq_true,decide_eq_true_eq,List.all_eq_true,List.mem_range,and_assoc]
theorem wF (h:¬(fs=sz∧ls=(n:Int)∧st.length≤lst.length∧(∀ t,t<n→gx data fs (t:Int)=true)∧∀ i,i<st.length→gx data fs (lst.getD i 0)=true)):ER data fs ls sz n st lst=false:=by
 cases hb:ER data fs ls sz n st lst with
 |false=>rfl
 |true=>exact absurd (uy.1 hb) h
def C1 (st lst:List Int)(k t:Nat):Int:=if (st.take k).contains (t:Int)=true then lst.getD (st.idxOf (t:Int)) 0 else (t:Int)
def l6 (st lst:List Int)(n k:Nat):List Int:=(List.range n).map (C1 st lst k)
theorem cC (st lst:List Int)(n k:Nat):(l6 st lst n k).length=n:=by simp [l6]
theorem fN (h:t<n):(l6 st lst n k).getD t 0=C1 st lst k t:=ai h _
theorem zw:l6 st lst n 0=NI (List.range n):=by
 unfold l6 NI;refine List.map_congr_left fun t _=>?_
 unfold C1;rw [List.take_zero,if_neg Ob]
theorem wq {l:List Int}(hn:l.Nodup)(h:k<l.length):l.idxOf (l.getD k 0)=k:=by
 have hm:l.getD k 0∈l:=by
  exact Zm 0xe10f540f
 have h1:=List.idxOf_lt_length_iff.2 hm;have h2:l.getD (l.idxOf (l.getD k 0)) 0=l.getD k 0:=by
  apply Y 0x9a0f
  simp
 rcases Nat.lt_trichotomy (l.idxOf (l.getD k 0)) k with g|g|g
 ·exact absurd h2 (cK hn _ _ g h)
 ·exact g
 exact absurd h2.symm (cK hn _ _ g h1)
theorem zx (hn:st.Nodup)(hk:k<st.length)(ht:st.getD k 0=(t:Int)):(l6 st lst n k).set t (lst.getD k 0)=l6 st lst n (k+1):=by
 refine aF (d:=0) (by rw [List.length_set,cC,cC]) (fun u hu=>?_);rw [List.length_set,cC] at hu;rw [fN hu];have htk:st.take (k+1)=st.take k++[(t:Int)]:=by rw [aC st 0 k hk,ht]
 by_cases e:t=u
 ·subst e;rw [aT (by rw [cC];exact hu)]
  unfold C1;rw [htk,if_pos Ob,← ht,wq hn hk]
 rw [getD_set_ne e,fN hu]
 unfold C1;rw [htk];have:(st.take k++[(t:Int)]).contains (u:Int)=(st.take k).contains (u:Int):=by
  rw [Bool.eq_iff_iff,List.contains_iff_mem,List.contains_iff_mem,List.mem_append,List.mem_singleton]
  constructor
  ·rintro (h|h)
   ·exact h
   omega
  exact .inl
 rw [this]
def inB (data:List (List UInt8))(st lst:List Int)(S i:Nat):UInt8:=(data.getD (C1 st lst st.length (i/S)).toNat []).getD (i%S) 0
def inL (data:List (List UInt8))(st lst:List Int)(S k:Nat):List UInt8:=(List.range k).map (inB data st lst S)
theorem uj (data:List (List UInt8))(st lst:List Int)(S k:Nat):(inL data st lst S k).length=k:=by simp [inL]
theorem vm:C1 st lst st.length t=if 0≤fe st (t:Int) then lst.getD (fe st (t:Int)).toNat 0 else (t:Int):=by
 unfold C1 fe;apply Y 0xe4e
 by_cases h:st.contains (t:Int)=true
 ·rw [if_pos h,if_pos h,if_pos oe,Int.toNat_natCast]
 rw [if_neg h,if_neg h,if_neg oe]
def yp (data:List (List UInt8))(secs:List Int)(k:Nat):List UInt8:=(secs.take k).flatMap fun i=>data.getD i.toNat []
theorem lC {secs:List Int}(h:k<secs.length):yp data secs (k+1)=yp data secs k++data.getD (secs.getD k 0).toNat []:=by
 unfold yp;rw [aC secs 0 k h,List.flatMap_append]
 simp
theorem fY {secs:List Int}{S:Nat}(h:∀ i,i<secs.length→(data.getD (secs.getD i 0).toNat []).length=S):∀ k,k≤secs.length→(yp data secs k).length=k*S
  |0,_=>by simp [yp]
  |k+1,hk=>by rw [lC hk,List.length_append,fY h k oe,h k hk,Nat.succ_mul]
theorem pq {secs:List Int}{S:Nat}(hS:1≤S)(h:∀ i,i<secs.length→(data.getD (secs.getD i 0).toNat []).length=S):∀ k,k≤secs.length→∀ i,i<k*S→(yp data secs k).getD i 0=(data.getD (secs.getD (i/S) 0).toNat []).getD (i%S) 0
  |0,_,i,hi=>by omega
  |k+1,hk,i,hi=>by
    have hl:=fY h k oe
    rw [lC hk]
    rw [Nat.succ_mul] at hi
    by_cases q:i<k*S
    · rw [List.getD_eq_getElem?_getD,List.getElem?_append_left oe,← List.getD_eq_getElem?_getD,pq hS h k oe i q]
    · have e1:i/S=k:=(dL hS).2 oe
      have e2:i%S=i-k*S:=by
        have:=Nat.div_add_mod i S
        rw [e1,Nat.mul_comm] at this
        omega
      rw [List.getD_eq_getElem?_getD,List.getElem?_append_right oe,hl,e1,e2,← List.getD_eq_getElem?_getD]
theorem Km {S m:Nat}(hS:1≤S)(h:∀ i,i<n→(data.getD (C1 st lst st.length i).toNat []).length=S)(hm:m≤n*S):(yp data (l6 st lst n st.length) n).take m=inL data st lst S m:=by
 have hh:∀ i,i<(l6 st lst n st.length).length→(data.getD ((l6 st lst n st.length).getD i 0).toNat []).length=S:=fun i hi=>by
  rw [cC] at hi;rw [fN hi]
  exact h i hi
 have hl:=fY hh n oao;refine aF (d:=0) (by rw [List.length_take,hl,uj];omega) (fun i hi=>?_);rw [List.length_take,hl] at hi;have hin:i/S<n:=by
  rw [Nat.div_lt_iff_lt_mul oe]
  omega
 rw [List.getD_eq_getElem?_getD,List.getElem?_take_of_lt oe,← List.getD_eq_getElem?_getD,pq hS hh n oao i oe,fN hin]
 exact (ai (g:=inB data st lst S) oe 0).symm
end
theorem yZ {chg:List Nat}{st:List Int}(h:stB (NI chg) st=true):st.Nodup∧∀ i,i<st.length→∃ t:Nat,st.getD i 0=(t:Int)∧t∈chg:=by
 have hall:=List.all_eq_true.1 h;have key:∀ i,i<st.length→(∃ t:Nat,st.getD i 0=(t:Int)∧t∈chg)∧(0<i→st.getD (i-1) 0<st.getD i 0):=by
  intro i hi;have h1:=hall i (List.mem_range.2 hi)
  unfold stT at h1;rw [Bool.and_eq_true,List.contains_iff_mem] at h1;obtain ⟨t,ht,e⟩:=List.mem_map.1 h1.1;refine ⟨⟨t,e.symm,ht⟩,fun h0=>?_⟩;have h2:=h1.2;rw [decide_eq_true h0,Bool.true_and,Bool.not_eq_true'] at h2;have:=of_decide_eq_false h2
  omega
 have mono:∀ d i,i+d+1<st.length→st.getD i 0<st.getD (i+d+1) 0:=by
  intro d
  induction d with
  |zero=>
   intro i hi;have:=(key (i+1) hi).2 oe
   simpa using this
  |succ d ih=>
   intro i hi;have h1:=ih i oe;have h2:=(key (i+(d+1)+1) hi).2 oe;rw [show i+(d+1)+1-1=i+d+1 by omega] at h2
   omega
 refine ⟨?_,fun i hi=>(key i hi).1⟩
 show List.Pairwise (· ≠·) st;rw [List.pairwise_iff_getElem];intro i j hi hj hij e;have:=mono (j-i-1) i oe;rw [show i+(j-i-1)+1=j by omega,List.getD_eq_getElem?_getD,List.getD_eq_getElem?_getD,List.getElem?_eq_getElem hi,List.getElem?_eq_getElem hj] at this
 simp [e] at this
def ym (n i:Nat):List Int:=(List.range n).map fun (t:Nat)=>if t<i then (t:Int) else 0
theorem eJ (n i:Nat):(ym n i).length=n:=by simp [ym]
theorem zK (n:Nat):ym n 0=List.replicate n 0:=by
 refine aF (d:=0) (by simp [ym]) (fun i hi=>?_);rw [eJ] at hi
 unfold ym;rw [ai hi,bO _ _ _ _ hi]
 simp
theorem DT {n i:Nat}(_h:i<n):(ym n i).set i (i:Int)=ym n (i+1):=by
 refine aF (d:=0) (by rw [List.length_set,eJ,eJ]) (fun u hu=>?_);rw [List.length_set,eJ] at hu
 by_cases e:i=u
 ·subst e;rw [aT (by rw [eJ];exact hu)]
  unfold ym;rw [ai hu,if_pos (Nat.lt_succ_self _)]
 rw [getD_set_ne e]
 unfold ym;rw [ai hu,ai hu]
 by_cases q:u<i
 ·rw [if_pos q,if_pos oe]
 rw [if_neg q,if_neg oe]
theorem DU (n:Nat):ym n n=NI (List.range n):=by
 unfold ym NI;refine List.map_congr_left fun t ht=>?_
 rw [if_pos (List.mem_range.1 ht)]
def eu (n:Nat)(lst:List Int)(m:Nat):List Int:=NI (List.range n)++lst.take m
theorem v7 {n m:Nat}{lst:List Int}(h:m≤lst.length):(eu n lst m).length=n+m:=by
 unfold eu;rw [List.length_append,bb,List.length_range,List.length_take]
 omega
theorem AR {n m t:Nat}{lst:List Int}(h:t<n):(eu n lst m).getD t 0=(t:Int):=by
 unfold eu;rw [List.getD_eq_getElem?_getD,List.getElem?_append_left (by rw [bb,List.length_range];exact h)]
 simp [NI,h]
theorem AS {n m i:Nat}{lst:List Int}(h:i<m):(eu n lst m).getD (n+i) 0=lst.getD i 0:=by
 unfold eu;rw [List.getD_eq_getElem?_getD,List.getElem?_append_right (by rw [bb,List.length_range];omega),bb,List.length_range,List.getElem?_take_of_lt oe,show n+i-n=i by omega,← List.getD_eq_getElem?_getD]
def cntE (lf:Bool)(sz n inn out:Int)(ops:List Po)(seq st:List Int)(data:List (List UInt8))(fs ls:Int)(lst:List Int)(k:Int):Int:=
  if fM lf sz n inn out ops seq st=false then 190 else if k<0∨(seq.length:Int)≤k then 1 else if ER data fs ls sz n.toNat st lst=false then 220 else 0
def Gz (sz inn:Int)(ops:List Po)(seq st:List Int)(data:List (List UInt8))(lst:List Int)(k:Int):List UInt8:=
  ctF (a7 (inL data st lst sz.toNat inn.toNat) (ah ops)) (seq.getD k.toNat 0).toNat sz.toNat
def cntV (lf:Bool)(sz n inn out:Int)(ops:List Po)(seq st:List Int)(data:List (List UInt8))(fs ls:Int)(lst:List Int)(k:Int):List UInt8:=
  if cntE lf sz n inn out ops seq st data fs ls lst k=0 then Gz sz inn ops seq st data lst k else []
section
variable {lf:Bool}{sz n inn out:Int}{ops:List Po}{seq st:List Int}{data:List (List UInt8)}{fs ls:Int}{lst:List Int}{k:Int}
theorem GC (h:fM lf sz n inn out ops seq st=false):cntE lf sz n inn out ops seq st data fs ls lst k=190:=by unfold cntE;rw [if_pos h]
theorem GB (h:fM lf sz n inn out ops seq st=true)(h2:k<0∨(seq.length:Int)≤k):cntE lf sz n inn out ops seq st data fs ls lst k=1:=by unfold cntE;rw [if_neg oav,if_pos h2]
theorem wQ (h:fM lf sz n inn out ops seq st=true)(h2:¬(k<0∨(seq.length:Int)≤k))(h3:ER data fs ls sz n.toNat st lst=false):cntE lf sz n inn out ops seq st data fs ls lst k=220:=by unfold cntE;rw [if_neg oav,if_neg h2,if_pos h3]
theorem GD (h:fM lf sz n inn out ops seq st=true)(h2:¬(k<0∨(seq.length:Int)≤k))(h3:ER data fs ls sz n.toNat st lst=true):cntE lf sz n inn out ops seq st data fs ls lst k=0:=by unfold cntE;rw [if_neg oav,if_neg h2,if_neg obM]
theorem n8 (h:cntE lf sz n inn out ops seq st data fs ls lst k≠0):cntV lf sz n inn out ops seq st data fs ls lst k=[]:=by unfold cntV;rw [if_neg h]
theorem n7 (h:cntE lf sz n inn out ops seq st data fs ls lst k=0):cntV lf sz n inn out ops seq st data fs ls lst k=Gz sz inn ops seq st data lst k:=by unfold cntV;rw [if_pos h]
end
structure Lay where
  n:Int
  a:Int
  b:Int
  s0:Int
  s1:Int
  gs:List Int
  us:List Int
  ls:List Int
structure Pln where
  sz:Int
  n:Int
  lf:Bool
  inn:Int
  out:Int
  ops:List Po
  seq:List Int
  st:List Int
structure Pkg where
  ver:Int
  frm:Int
  pl:Pln
def Pln.ok (p:Pln):Bool:=fM p.lf p.sz p.n p.inn p.out p.ops p.seq p.st
def Lay.rest (y:Lay):List Int:=[y.a,y.b,y.s0,y.s1]++y.gs++y.us++y.ls
instance (f:Fl):Decidable f.Ok:=
  decidable_of_iff (1≤f.size∧f.size≤4096∧1≤f.data.length∧f.data.length≤64∧f.wear.length=f.data.length∧f.dead.length=f.data.length∧(∀ i,i<f.data.length→(f.data.getD i []).length=f.size)∧1≤f.limit∧f.limit≤100000∧(∀ i,i<f.data.length→0≤f.wear.getD i 0∧f.wear.getD i 0≤f.limit))
    ⟨fun ⟨a,b,c,d,e,g,h,i,j,k⟩=>⟨a,b,c,d,e,g,h,i,j,k⟩,fun ⟨a,b,c,d,e,g,h,i,j,k⟩=>⟨a,b,c,d,e,g,h,i,j,k⟩⟩
def fg (f:Fl)(y:Lay):Bool:=
  decide f.Ok&&decide (38≤f.size∧1≤y.n∧y.n≤(f.data.length:Int)∧1≤y.gs.length∧y.gs.length≤8∧(∀ x∈y.rest,y.n≤x∧x<(f.data.length:Int))∧y.rest.Nodup)
def nxE (e:Int):Nx:=⟨fo0,false,e⟩
def nxD:Nx:=⟨fo0,true,0⟩
def b8 (f:Fl)(y:Lay)(x:Nx)(s:List Int):Nx:=if x.e≠0∨x.done=false then x else aO f y.a y.b s
def eQ (f:Fl)(n:Int):List UInt8:=(f.data.take n.toNat).flatten
def Pln.need (p:Pln)(old:List UInt8):Int×Nd:=(dV p.lf p.sz p.n p.inn p.out p.ops p.seq p.st old,fu p.lf p.sz p.n p.inn p.out p.ops p.seq p.st old)
def sPh (s:List Int):Int:=s.getD 0 0
def sSt (s:List Int):Int:=s.getD 1 0
def sSb (s:List Int):Int:=s.getD 2 0
def sUn (s:List Int):Int:=s.getD 3 0
def sSg (s:List Int):Int:=s.getD 6 0
def ff (f:Fl)(y:Lay)(s:List Int)(p:Pln):Nx:=
  if (p.need ((eQ f y.n).take p.inn.toNat)).1≠0 then nxE (p.need ((eQ f y.n).take p.inn.toNat)).1
  else if (p.need ((eQ f y.n).take p.inn.toNat)).2.u>(y.us.length:Int) then nxE 191
  else if sSt s≥(p.need ((eQ f y.n).take p.inn.toNat)).2.u then aO f y.a y.b ((s.set 0 2).set 1 0)
  else b8 f y (aM f (y.us.getD (sSt s).toNat 0) (List.replicate f.size 255)) (s.set 1 (sSt s+1))
def gN (f:Fl)(y:Lay)(s:List Int)(p:Pln):Nx:=
  if sSt s≥(p.st.length:Int) then aO f y.a y.b ((s.set 0 3).set 1 0)
  else b8 f y (aM f (y.ls.getD (sSt s).toNat 0) (av f (p.st.getD (sSt s).toNat 0))) (s.set 1 (sSt s+1))
def sgF (f:Fl)(y:Lay)(s:List Int)(c:List UInt8):Nx:=
  if sSg s≥(y.gs.length:Int) then nxE 220
  else if ((aM f (y.gs.getD (sSg s).toNat 0) c).e=171∨(aM f (y.gs.getD (sSg s).toNat 0) c).e=172)∧sSg s+1<(y.gs.length:Int) then aO f y.a y.b (s.set 6 (sSg s+1))
  else b8 f y (aM f (y.gs.getD (sSg s).toNat 0) c) (s.set 2 (sSb s+1))
def plF (f:Fl)(y:Lay)(s:List Int)(t:Int):Nx:=
  if sSg s≥(y.gs.length:Int) then nxE 220 else aM f t (av f (y.gs.getD (sSg s).toNat 0))
def Pln.cntE (p:Pln)(f:Fl)(y:Lay)(k:Int):Int:=Go.Sl.cntE p.lf p.sz p.n p.inn p.out p.ops p.seq p.st f.data (f.size:Int) y.n y.ls k
def Pln.cntV (p:Pln)(f:Fl)(y:Lay)(k:Int):List UInt8:=Go.Sl.cntV p.lf p.sz p.n p.inn p.out p.ops p.seq p.st f.data (f.size:Int) y.n y.ls k
def dD (f:Fl)(y:Lay)(s:List Int)(p:Pln):Nx:=
  if sSt s≥(p.seq.length:Int) then aO f y.a y.b ((s.set 0 4).set 1 0)
  else if sSb s>2 then nxE 240
  else if sSb s=2 then b8 f y (plF f y s (p.seq.getD (sSt s).toNat 0)) ((s.set 1 (sSt s+1)).set 2 0)
  else if p.cntE f y (sSt s)≠0 then nxE (p.cntE f y (sSt s))
  else if sSb s=1 then sgF f y s (p.cntV f y (sSt s))
  else b8 f y (towS f y.us (sUn s) (iQ (p.seq.getD (sSt s).toNat 0) (av f (p.seq.getD (sSt s).toNat 0)) (p.cntV f y (sSt s)))) ((s.set 2 1).set 3 (sUn s+((iQ (p.seq.getD (sSt s).toNat 0) (av f (p.seq.getD (sSt s).toNat 0)) (p.cntV f y (sSt s))).length:Int)))
def RT (s:List Int):List Int:=[0,0,0,0,0,1-s.getD 5 0,sSg s,s.getD 8 0,s.getD 8 0]
def l3 (f:Fl)(y:Lay)(s:List Int):Fnd:=bG (aR f y.us) (f.size:Int) (sUn s)
def l8 (f:Fl)(y:Lay)(s:List Int):Int:=(((l3 f y s).b.getD 0 0).toNat:Int)
def dP (f:Fl)(y:Lay)(s:List Int):Nx:=
  if sUn s=0 then aO f y.a y.b (RT s)
  else if sSb s>1 then nxE 240
  else if (l3 f y s).e≠0 then nxE (l3 f y s).e
  else if l8 f y s≥y.n then nxE 210
  else if sSb s=1 then b8 f y (plF f y s (l8 f y s)) ((s.set 2 0).set 3 (l3 f y s).at_)
  else if resE (av f (l8 f y s)) (l3 f y s).b≠0 then nxE (resE (av f (l8 f y s)) (l3 f y s).b)
  else sgF f y s (vx (av f (l8 f y s)) (l3 f y s).b)
def fitE (f:Fl)(y:Lay)(s:List Int)(k:Pkg)(h:Bool):Int:=
  if h=false∨k.ver≠s.getD 7 0 then 240
  else if k.pl.ok=false then 190
  else if k.pl.sz≠(f.size:Int)∨k.pl.n≠y.n∨(k.pl.st.length:Int)>(y.ls.length:Int) then 220
  else 0
def aU (f:Fl)(y:Lay)(k:Pkg)(h:Bool):Nx:=
  if fg f y=false then nxE 220
  else if (a6 f y.a y.b).2.2≠0 then nxE (a6 f y.a y.b).2.2
  else if sPh (a6 f y.a y.b).1=0∨sPh (a6 f y.a y.b).1=4∨sPh (a6 f y.a y.b).1=5 then nxD
  else if sPh (a6 f y.a y.b).1=6 then dP f y (a6 f y.a y.b).1
  else if sPh (a6 f y.a y.b).1>6 then nxE 240
  else if fitE f y (a6 f y.a y.b).1 k h≠0 then nxE (fitE f y (a6 f y.a y.b).1 k h)
  else if sPh (a6 f y.a y.b).1=1 then ff f y (a6 f y.a y.b).1 k.pl
  else if sPh (a6 f y.a y.b).1=2 then gN f y (a6 f y.a y.b).1 k.pl
  else dD f y (a6 f y.a y.b).1 k.pl
structure Rni where
  f:Fl
  n:Nat
  e:Int
def aK (y:Lay)(k:Pkg)(h:Bool):Nat→Fl→Rni
  |0,f=>⟨f,0,0⟩
  |m+1,f=>
    if (aU f y k h).e≠0∨(aU f y k h).done=true then ⟨f,0,(aU f y k h).e⟩
    else if ao f (aU f y k h).x≠0 then ⟨f,0,ao f (aU f y k h).x⟩
    else ⟨(aK y k h m (dw f (aU f y k h).x fun _=>255)).f,(aK y k h m (dw f (aU f y k h).x fun _=>255)).n+1,(aK y k h m (dw f (aU f y k h).x fun _=>255)).e⟩
def mcA (f:Fl)(a:Fa)(y:Lay)(G U V:Option Addr)(gc uc vc:Nat)(l:List Value):List Value:=.int .i64 (f.size:Int)::.slice a.D f.data.length a.cD::.slice a.W f.wear.length a.cW::.int .i64 f.limit::.slice a.E f.dead.length a.cE::.int .i64 y.n::.int .i64 y.a::.int .i64 y.b::.int .i64 y.s0::.int .i64 y.s1::.slice G y.gs.length gc::.slice U y.us.length uc::.slice V y.ls.length vc::l
def mcK (k:Pkg)(A B C:Option Addr)(ac bc cc:Nat)(l:List Value):List Value:=.int .i64 k.ver::.int .i64 k.frm::.int .i64 k.pl.sz::.int .i64 k.pl.n::.bool k.pl.lf::.int .i64 k.pl.inn::.int .i64 k.pl.out::.slice A k.pl.ops.length ac::.slice B k.pl.seq.length bc::.slice C k.pl.st.length cc::l
def hY (y:Lay)(G U V:Option Addr)(gc uc vc:Nat):List Value:=[.int .i64 y.n,.int .i64 y.a,.int .i64 y.b,.int .i64 y.s0,.int .i64 y.s1,.slice G y.gs.length gc,.slice U y.us.length uc,.slice V y.ls.length vc]
end Go.Sl
