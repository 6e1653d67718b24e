/-
  Part of a proof.
-/
import Derived.Test.YtbpddeiogcgegaaGreatUSlM
import Derived.Test.YtbpddeiogcgegaaGreatUPs
set_option maxHeartbeats 0
set_option maxRecDepth 4000
set_option linter.all false
namespace Go.Sl
theorem lY:∀ (k f n:Nat) (l:List Nat),l∈stL k f n↔l.length=k∧l.Pairwise (· < ·)∧∀ x∈l,f≤x∧x<n
  |0,f,n,l=>by
    simp only [stL,List.mem_singleton]
    constructor
    · rintro rfl
      exact ⟨rfl,List.Pairwise.nil,fun x hx=>by cases hx⟩
    · rintro ⟨h,_⟩
      exact List.length_eq_zero_iff.1 h
  |k+1,f,n,l=>by
    simp only [stL,List.mem_flatMap,List.mem_map,List.mem_range'_1]
    constructor
    · rintro ⟨t,ht,l',hl',rfl⟩
      obtain ⟨h1,h2,h3⟩:=(lY k (t+1) n l').1 hl'
      refine ⟨by rw [List.length_cons,h1],List.pairwise_cons.2 ⟨fun x hx=>by have:=h3 x hx;omega,h2⟩,fun x hx=>?_⟩
      rcases List.mem_cons.1 hx with rfl|hx
      · omega
      · have:=h3 x hx
        omega
    · rintro ⟨h1,h2,h3⟩
      cases l with
      |nil=>cases h1
      |cons t l=>
        have ht:=h3 t oO
        refine ⟨t,by omega,l,(lY k (t+1) n l).2 ⟨by simpa using h1,(List.pairwise_cons.1 h2).2,fun x hx=>?_⟩,rfl⟩
        have h4:=(List.pairwise_cons.1 h2).1 x hx
        have h5:=h3 x obP
        omega
theorem wM:∀ (k f n:Nat),(stL k f n).Pairwise fun a b=>ml (NI a) (NI b)<0
  |0,_,_=>List.pairwise_singleton _ _
  |k+1,f,n=>by
    rw [stL,List.pairwise_flatMap]
    refine ⟨fun t _=>?_,?_⟩
    · rw [List.pairwise_map]
      refine (wM k (t+1) n).imp fun {a b} h=>?_
      show ml ((t:Int)::NI a) ((t:Int)::NI b)<0
      rw [ml,if_pos (pd.2 rfl)]
      exact h
    · refine (List.pairwise_lt_range' (s:=f) (n:=n-f)).imp fun {t u} h=>?_
      intro x hx y hy
      obtain ⟨a,_,rfl⟩:=List.mem_map.1 hx
      obtain ⟨b,_,rfl⟩:=List.mem_map.1 hy
      show ml ((t:Int)::NI a) ((u:Int)::NI b)<0
      have e:El (t:Int) (u:Int)= -1:=by
        unfold El
        rw [if_pos oe]
      rw [ml,e,if_neg ob]
      decide
theorem wV:∀ (n:Nat) (l:List Nat),l.Pairwise (· < ·)→(∀ x∈l,x<n)→∃ s,s<2^n∧mem s n=l
  |0,l,_,h=>by
    refine ⟨0,by decide,?_⟩
    cases l with
    |nil=>rfl
    |cons x l=>exact absurd (h x oO) (Nat.not_lt_zero _)
  |n+1,l,hp,h=>by
    have hs:∀ s,mem s (n+1)=mem s n++(if s.testBit n=true then [n] else []):=by
      intro s
      unfold mem
      rw [List.range_succ,List.filter_append]
      by_cases q:s.testBit n=true<;>simp [q]
    by_cases hn:n∈l
    · have hne:l≠[]:=List.ne_nil_of_mem hn
      have hl:=List.dropLast_concat_getLast hne
      have hp2:=hp
      rw [← hl,List.pairwise_append] at hp2
      obtain ⟨q1,_,q3⟩:=hp2
      have hlast:l.getLast hne=n:=by
        have h1:=h _ (List.getLast_mem hne)
        rw [← hl] at hn
        rcases List.mem_append.1 hn with h2|h2
        · have:=q3 n h2 (l.getLast hne) oO
          omega
        · exact (List.mem_singleton.1 h2).symm
      obtain ⟨s,h1,h2⟩:=wV n l.dropLast q1 (fun x hx=>by
        have:=q3 x hx (l.getLast hne) oO
        omega)
      refine ⟨2^n+s,by rw [Nat.pow_succ];omega,?_⟩
      rw [hs,Nat.testBit_two_pow_add_eq,Nat.testBit_lt_two_pow h1]
      have e:mem (2^n+s) n=mem s n:=by
        unfold mem
        refine List.filter_congr fun i hi=>?_
        exact Nat.testBit_two_pow_add_gt (List.mem_range.1 hi) s
      rw [e,h2]
      show l.dropLast++[n]=l
      rw [← hlast]
      exact hl
    · obtain ⟨s,h1,h2⟩:=wV n l hp (fun x hx=>by
        have:=h x hx
        have:x≠n:=fun e=>hn (e▸hx)
        omega)
      refine ⟨s,by rw [Nat.pow_succ];omega,?_⟩
      rw [hs,Nat.testBit_lt_two_pow h1,h2]
      simp
theorem tI (m n:Nat):(mem m n).Pairwise (· < ·):=List.Pairwise.filter _ List.pairwise_lt_range
theorem AV {n k:Nat}(hn:n≤64):(∀ s,s<2^n→(mem s 64).length=k→mem s 64∈stL k 0 n)∧(∀ l∈stL k 0 n,∃ s,s<2^n∧l=mem s 64)∧List.Pairwise (fun a b=>ml (NI a) (NI b)<0) (stL k 0 n):=by
 refine ⟨fun s hs hl=>?_,fun l hl=>?_,wM k 0 n⟩
 ·rw [yz hn hs] at hl ⊢;refine (lY k 0 n _).2 ⟨hl,tI _ _,fun x hx=>⟨Nat.zero_le _,?_⟩⟩
  unfold mem at hx
  exact List.mem_range.1 (List.mem_filter.1 hx).1
 obtain ⟨h1,h2,h3⟩:=(lY k 0 n l).1 hl;obtain ⟨s,hs,e⟩:=wV n l h2 fun x hx=>(h3 x hx).2
 exact ⟨s,hs,by rw [yz hn hs];exact e.symm⟩
theorem Bn {n s:Nat}(hn:n≤16)(hs:s<2^n):s<18446744073709551616:=by
 have:=Nat.pow_le_pow_right (n:=2) ob hn;exact Zm 0x18
theorem vE {n k:Nat}{p:Nat→Nat→Bool}(hn:n≤16):bst n p k (2^n)=(stL k 0 n).find? (l7 n p):=by
 obtain ⟨c1,c2,c3⟩:=AV (n:=n) (k:=k) oe
 cases hb:bst n p k (2^n) with
 |none=>
  symm;apply Y 0x111f;intro l hl;obtain ⟨s,hs,rfl⟩:=c2 l hl;rw [gk (Bn hn hs),gz.1 hb s hs (iu k 0 n _ hl)];exact Zm 0xc9e
 |some b=>
  obtain ⟨⟨s,h1,rfl,h3,h4⟩,h5⟩:=iN hb;have hm:=c1 s h1 h3
  cases hf:(stL k 0 n).find? (l7 n p) with
  |none=>
   have:=List.find?_eq_none.1 hf _ hm;rw [gk (Bn hn h1),h4] at this
   exact absurd rfl this
  |some y=>
   obtain ⟨hy,l1,l2,he,hno⟩:=List.find?_eq_some_iff_append.1 hf;rw [he] at hm c3
   rcases List.mem_append.1 hm with h|h
   ·have:=hno _ h;rw [gk (Bn hn h1),h4] at this
    cases this
   rcases List.mem_cons.1 h with h|h
   ·rw [h]
   have h6:=(List.pairwise_cons.1 (List.pairwise_append.1 c3).2.1).1 _ h;have hym:y∈stL k 0 n:=by rw [he];simp
   obtain ⟨s',hs',rfl⟩:=c2 y hym;rw [gk (Bn hn hs')] at hy;have h7:=h5 s' hs' (iu k 0 n _ hym) hy;rw [jM] at h6;exact Zm 0x18
theorem MH {ls:List (List Int)}(hr:cw ls=true)(hn:ls.length≤16):DP ls=tm ls∧DQ ls=tp ls∧Fg ls=0:=by
 have hR:D0 ls=MG ls:=kr fun k _=>vE hn
 have hT:Ih ls=xA ls:=by unfold Ih xA;rw [hR]
 refine ⟨by unfold tm DP;rw [hT],by unfold tp DQ;rw [hT],?_⟩;have h0:∃ b,D0 ls=some b:=by
  cases h:D0 ls with
  |some b=>exact ⟨b,rfl⟩
  |none=>
   exfalso;apply Y 0xd72f;intro h0;apply Y 0x602f;intro hs;have hle:(mem (2^ls.length-1) 64).length≤ls.length:=by rw [yz oe hs];exact rF _ _
   have:=gz.1 (h0 (mem (2^ls.length-1) 64).length oe) _ hs rfl;rw [tT.2 (Prg.all fun t ht=>by rw [Nat.testBit_two_pow_sub_one];exact decide_eq_true ht)] at this
   cases this
 obtain ⟨b,hb⟩:=h0
 unfold Fg;rw [if_pos hr,← hT,rn hr oe,hb];exact Zm 0x2
theorem xn:∀ {l m:List Int},l.Pairwise (· < ·)→m.Pairwise (· < ·)→(∀ x,x∈l↔x∈m)→l=m
  |[],[],_,_,_=>rfl
  |[],b::m,_,_,h=>by have:=(h b).2 oO;cases this
  |a::l,[],_,_,h=>by have:=(h a).1 oO;cases this
  |a::l,b::m,h1,h2,h=>by
    obtain ⟨p1,p2⟩:=List.pairwise_cons.1 h1
    obtain ⟨q1,q2⟩:=List.pairwise_cons.1 h2
    have e:a=b:=by
      rcases List.mem_cons.1 ((h a).1 oO) with g|g
      · exact g
      · rcases List.mem_cons.1 ((h b).2 oO) with g'|g'
        · exact g'.symm
        · have:=q1 a g
          have:=p1 b g'
          omega
    subst e
    congr 1
    refine xn p2 q2 fun x=>?_
    constructor
    · intro hx
      rcases List.mem_cons.1 ((h x).1 obP) with g|g
      · subst g
        have:=p1 x hx
        omega
      · exact g
    · intro hx
      rcases List.mem_cons.1 ((h x).2 obP) with g|g
      · subst g
        have:=q1 x hx
        omega
      · exact g
theorem lM {α:Type}[DecidableEq α]:∀ {l m:List α},l.Nodup→(∀ x∈l,x∈m)→m.length≤l.length→l.Perm m
  |[],m,_,_,h=>by
    have:m=[]:=List.length_eq_zero_iff.1 qP
    subst this
    exact List.Perm.refl _
  |a::l,m,h1,h2,h=>by
    have ha:=h2 a oO
    have h3:=List.nodup_cons.1 h1
    have hp:=List.perm_cons_erase ha
    have hl:=hp.length_eq
    refine (List.Perm.cons a (lM h3.2 (fun x hx=>?_) (by simp at hl h;omega))).trans hp.symm
    have hne:x≠a:=fun e=>h3.1 (e▸hx)
    exact (List.mem_erase_of_ne hne).2 (h2 x obP)
def pR (l:List Int):List Int:=l.mergeSort fun x y=>decide (x≤y)
theorem iv (l:List Int):(pR l).Perm l:=List.mergeSort_perm _ _
theorem AY (l:List Int):(pR l).Pairwise (· ≤·):=by
 have:=List.pairwise_mergeSort (le:=fun x y:Int=>decide (x≤y)) (fun a b c h1 h2=>by simp at*;omega) (fun a b=>by simp;omega) l
 exact this.imp fun h=>by simpa using h
theorem zZ {l:List Nat}(h:l.Pairwise (· < ·)):(NI l).Pairwise (· < ·):=by
 unfold NI;rw [List.pairwise_map]
 exact h.imp fun h=>by omega
section
variable {chg:List Nat}{seq:List Int}
theorem iV (hc:chg.Pairwise (· < ·)):pR seq=NI chg↔seq.length=chg.length∧∀ t∈chg,(t:Int)∈seq:=by
 have hr:=zZ hc;apply Y 0x1f1f;intro hn
 constructor
 ·intro h;apply Y 0x241f;intro hp;rw [h] at hp;refine ⟨by rw [← hp.length_eq,bm],fun t ht=>hp.mem_iff.1 (List.mem_map.2 ⟨t,ht,rfl⟩)⟩
 ·apply Y 0x7ee;intro h1 h2;have hp:(NI chg).Perm seq:=lM hn (fun x hx=>by
   obtain ⟨t,ht,rfl⟩:=List.mem_map.1 hx
   exact h2 t ht) obQ
  have hp2:=(iv seq).trans hp.symm;refine xn ?_ hr fun x=>hp2.mem_iff
  have hnd:(pR seq).Nodup:=hp2.nodup_iff.2 hn;have:=(AY seq).and hnd
  exact this.imp fun h=>by omega
theorem wO (hc:chg.Pairwise (· < ·))(h:pR seq=NI chg):seq.Nodup:=by
 have hr:=zZ hc;apply Y 0x1f1f;intro hn;apply Y 0x241f;intro hp;rw [h] at hp
 exact hp.nodup_iff.1 hn
end
def Cd (l:List Int)(i:Nat):List (Int×Value):=(List.range i).map fun j=>(l.getD j 0,.int .i64 (j:Int))
theorem jw (l:List Int)(i:Nat):Cd l (i+1)=Cd l i++[(l.getD i 0,.int .i64 (i:Int))]:=by simp [Cd,List.range_succ]
theorem ry {l:List Int}{t:Int}:∀ {i:Nat},(∀ j,j<i→l.getD j 0≠t)→fI (Cd l i) t=none
  |0,_=>rfl
  |i+1,h=>by
    rw [jw,tH,ry (fun j hj=>h j oe)]
    have:=h i oe
    simp only [fI]
    rw [if_neg this]
theorem tv {l:List Int}{k:Nat}(hn:∀ i j,i<j→j<l.length→l.getD i 0≠l.getD j 0)(hk:k<l.length):∀ {i:Nat},k<i→i≤l.length→fI (Cd l i) (l.getD k 0)=some (.int .i64 (k:Int))
  |0,h,_=>absurd h (Nat.not_lt_zero _)
  |i+1,h,hi=>by
    rw [jw,tH]
    by_cases e:k=i
    · subst e
      rw [ry (fun j hj=>hn j k hj hk)]
      simp [fI]
    · rw [tv hn hk oe oe]
theorem eO {l:List Int}(h:l.Nodup)(i j:Nat)(hij:i<j)(hj:j<l.length):l.getD i 0≠l.getD j 0:=by
 rw [List.getD_eq_getElem?_getD,List.getD_eq_getElem?_getD,List.getElem?_eq_getElem oe,List.getElem?_eq_getElem hj];intro e;have:=(List.getElem_inj h).1 (by simpa using e);exact Zm 0x18
theorem iI {l:List Int}{t:Int}(h:t∈l):∃ k:Nat,eB l t=(k:Int)∧k<l.length∧l.getD k 0=t:=by
 apply Y 0xb42f;intro h1;refine ⟨l.idxOf t,?_,h1,?_⟩
 ·unfold eB;rw [if_pos (List.contains_iff_mem.2 h)]
 exact Zm 0x51e211f
theorem tx {l:List Int}{t:Int}(hn:l.Nodup)(h:t∈l):fI (Cd l l.length) t=some (.int .i64 (eB l t)):=by
 obtain ⟨k,h1,h2,h3⟩:=iI h;rw [h1,← h3]
 exact tv (eO hn) h2 h2 (Nat.le_refl _)
theorem iH {l:List Int}{t:Int}:eB l t<0↔t∉l:=by
 constructor
 ·intro h hm;obtain ⟨k,h1,_⟩:=iI hm;exact Zm 0x18
 intro h
 unfold eB;rw [if_neg (fun g=>h (List.contains_iff_mem.1 g))];exact Zm 0xc9e
def stT (chg st:List Int)(i:Nat):Bool:=chg.contains (st.getD i 0)&& !(decide (0<i)&&decide (st.getD (i-1) 0≥st.getD i 0))
def stB (chg st:List Int):Bool:=(List.range st.length).all (stT chg st)
section
variable {l:List Sy}{inn:Int}{S n u t:Nat}{seq st chg:List Int}
def okT (seq st:List Int)(u t:Nat):Bool:=st.contains (t:Int)||decide (eB seq u≤eB seq t)
def okU (l:List Sy)(inn:Int)(S n:Nat)(seq st:List Int)(u:Nat):Bool:=(List.range n).all fun t=> !gS l inn S u t||okT seq st u t
def plB (l:List Sy)(inn:Int)(S n:Nat)(seq st:List Int):Bool:=(List.range n).all (okU l inn S n seq st)
theorem eZ {n:Nat}{p:Nat→Bool}(h:∀ k,k<n→p k=true):(List.range n).all p=true:=List.all_eq_true.2 fun k hk=>h k (List.mem_range.1 hk)
theorem jY {n k:Nat}{p:Nat→Bool}(hk:k<n)(h:p k=false):(List.range n).all p=false:=by
 cases hb:(List.range n).all p with
 |false=>rfl
 |true=>
  have:=List.all_eq_true.1 hb k (List.mem_range.2 hk);rw [h] at this
  cases this
theorem Fy (h:∀ j,j<((bN l inn S n n).getD u []).length→∀ t:Nat,((bN l inn S n n).getD u []).getD j 0=(t:Int)→okT seq st u t=true)(hu:u<n):okU l inn S n seq st u=true:=by
 refine eZ fun t ht=>?_
 cases hr:gS l inn S u t with
 |false=>rfl
 |true=>
  have hc:=lH (l:=l) (inn:=inn) (S:=S) hu ht;rw [hr,List.contains_iff_mem] at hc;obtain ⟨k,_,h2,h3⟩:=iI hc;rw [h k h2 t h3];exact Zm 0x2
theorem D1 (hr:gS l inn S u t=true)(ht:t<n)(h:okT seq st u t=false):okU l inn S n seq st u=false:=by
 refine jY (k:=t) ht ?_;rw [hr,h];exact Zm 0x2
end
theorem Il {l:List Sy}{inn:Int}{S n u:Nat}{seq st:List Int}(h:ij l inn S u=false):okU l inn S n seq st u=true:=eZ fun t _=>by rw [s8 h];rfl
theorem tS {l:List Int}{t:Int}:decide (eB l t<0)= !l.contains t:=by
 rw [Bool.eq_iff_iff,decide_eq_true_eq,iH,Bool.not_eq_true',← Bool.not_eq_true,List.contains_iff_mem]
theorem wK {chg st:List Int}{i:Nat}(h:chg.contains (st.getD i 0)=false):stT chg st i=false:=by unfold stT;rw [h];rfl
theorem wJ {chg st:List Int}{i:Nat}(h:0<i)(h2:st.getD (i-1) 0≥st.getD i 0):stT chg st i=false:=by unfold stT;rw [decide_eq_true h,decide_eq_true h2];simp
theorem ll {chg st:List Int}{i:Nat}(h:chg.contains (st.getD i 0)=true)(h2:¬0<i):stT chg st i=true:=by unfold stT;rw [h,decide_eq_false h2];rfl
theorem lh {chg st:List Int}{i:Nat}(h:chg.contains (st.getD i 0)=true)(h2:¬st.getD (i-1) 0≥st.getD i 0):stT chg st i=true:=by unfold stT;rw [h,decide_eq_false h2];simp
theorem D2 {seq st:List Int}{u t:Nat}(h:st.contains (t:Int)=false)(h2:eB seq t<eB seq u):okT seq st u t=false:=by unfold okT;rw [h,decide_eq_false oe];rfl
theorem lT {seq st:List Int}{u t:Nat}(h:st.contains (t:Int)=true):okT seq st u t=true:=by unfold okT;rw [h];rfl
theorem lS {seq st:List Int}{u t:Nat}(h2:¬eB seq t<eB seq u):okT seq st u t=true:=by unfold okT;rw [decide_eq_true oe];simp
def eD (lf:Bool)(sz n inn out:Int)(ops:List Po)(seq st:List Int):Bool:=
  decide (cF inn out ops=0)&& !lf&&kb sz n inn out&&decide (pR seq=NI (aH (ah ops) inn sz.toNat n.toNat))&&stB (NI (aH (ah ops) inn sz.toNat n.toNat)) st&&plB (ah ops) inn sz.toNat n.toNat seq st
section
variable {lf:Bool}{sz n inn out:Int}{ops:List Po}{seq st:List Int}
theorem eI:eD lf sz n inn out ops seq st=true↔cF inn out ops=0∧lf=false∧kb sz n inn out=true∧pR seq=NI (aH (ah ops) inn sz.toNat n.toNat)∧stB (NI (aH (ah ops) inn sz.toNat n.toNat)) st=true∧plB (ah ops) inn sz.toNat n.toNat seq st=true:=by
 unfold eD
 simp only [Bool.and_eq_true,decide_eq_true_eq,Bool.not_eq_true']
 constructor
 ·apply Y 0x6a2f;intro a b c d e f;exact ⟨a,b,c,d,e,f⟩
 apply Y 0xf92f;intro a b c d e f;exact Zm 0xfb2f
theorem kj (h:¬(cF inn out ops=0∧lf=false∧kb sz n inn out=true∧pR seq=NI (aH (ah ops) inn sz.toNat n.toNat)∧stB (NI (aH (ah ops) inn sz.toNat n.toNat)) st=true∧plB (ah ops) inn sz.toNat n.toNat seq st=true)):eD lf sz n inn out ops seq st=false:=by
 cases hb:eD lf sz n inn out ops seq st with
 |false=>rfl
 |true=>exact absurd (eI.1 hb) h
end
def ctB (b:List UInt8)(i:Nat):UInt8:=if i<b.length then b.getD i 0 else 255
def ctK (b:List UInt8)(a k:Nat):List UInt8:=(List.range k).map fun j=>ctB b (a+j)
def ctF (b:List UInt8)(t S:Nat):List UInt8:=ctK b (t*S) S
theorem jI (b:List UInt8)(a k:Nat):(ctK b a k).length=k:=by simp [ctK]
theorem b9 (b:List UInt8)(t S:Nat):(ctF b t S).length=S:=jI _ _ _
theorem CM (b:List UInt8)(a k:Nat):ctK b a (k+1)=ctK b a k++[ctB b (a+k)]:=by simp [ctK,List.range_succ]
theorem Gn (b:List UInt8)(a S:Nat):(b.drop (min a b.length)).take (min (b.length-min a b.length) S)++List.replicate (S-min (b.length-min a b.length) S) 255=ctK b a S:=by
 refine a8 (d:=0) (by rw [List.length_append,List.length_take,List.length_drop,List.length_replicate,jI];omega) (fun i hi=>?_);rw [List.length_append,List.length_take,List.length_drop,List.length_replicate] at hi;have e:(ctK b a S).getD i 0=ctB b (a+i):=by
  unfold ctK;rw [List.getD_eq_getElem?_getD,List.getElem?_map,List.getElem?_range oe];exact Zm 0x2
 rw [e]
 unfold ctB
 by_cases h:a+i<b.length
 ·rw [if_pos h,List.getD_eq_getElem?_getD,List.getElem?_append_left oaD,List.getElem?_take_of_lt oe,List.getElem?_drop,Nat.min_eq_left oe,← List.getD_eq_getElem?_getD]
 rw [if_neg h,List.getD_eq_getElem?_getD,List.getElem?_append_right oaD,List.length_take,List.length_drop,List.getElem?_replicate,if_pos oe];exact Zm 0x2
def ndS (rs:List (Nat×Nat)):Nat:=(rs.map fun r=>4+(r.2-r.1)).sum
theorem gK (a b:List (Nat×Nat)):ndS (a++b)=ndS a+ndS b:=by simp [ndS]
theorem tD (rs:List (Nat×Nat)){k:Nat}(h:k<rs.length):ndS (rs.take (k+1))=ndS (rs.take k)+(4+((rs.getD k (0,0)).2-(rs.getD k (0,0)).1)):=by
 rw [aA rs (0,0) k h,gK]
 simp [ndS]
theorem Ci (s:List (Nat×Nat))(i:Nat):ndS (fZ s i)≤ndS s+5:=by
 have h0:ndS [(i,i+1)]=5:=by
  show 4+(i+1-i)+0=5;exact Zm 0x18
 unfold fZ
 cases h:s.getLast? with
 |none=>
  show ndS (s++[(i,i+1)])≤ndS s+5;rw [gK,h0];exact Zm 0x2de
 |some r=>
  obtain ⟨s',rfl⟩:=List.getLast?_eq_some_iff.1 h
  show ndS (if r.2=i then (s'++[r]).dropLast++[(r.1,i+1)] else (s'++[r])++[(i,i+1)])≤ndS (s'++[r])+5
  split
  ·rename_i hq;rw [List.dropLast_concat,gK,gK]
   show ndS s'+(4+(i+1-r.1)+0)≤ndS s'+(4+(r.2-r.1)+0)+5;exact Zm 0x18
  rw [gK,h0];exact Zm 0x2de
theorem lX (a b:List UInt8):∀ k,ndS (aF a b k)≤5*k
  |0=>Nat.le_refl _
  |k+1=>by
    have ih:=lX a b k
    rw [aF]
    split
    · omega
    · have:=Ci (aF a b k) k
      omega
theorem tC (rs:List (Nat×Nat))(k:Nat):ndS (rs.take k)≤ndS rs:=by
 have:=gK (rs.take k) (rs.drop k);rw [List.take_append_drop] at this;exact Zm 0x18
def GX (o w:List UInt8):Nat:=5+ndS (aF o w o.length)
theorem xC (o w:List UInt8):GX o w≤5+5*o.length:=by
 have:=lX o w o.length
 unfold GX;exact Zm 0x18
def ndR (old new:List UInt8)(S:Nat)(t:Int):Nat:=GX (ctF old t.toNat S) (ctF new t.toNat S)
def ndT (old new:List UInt8)(S:Nat)(seq:List Int):Nat:=(seq.map (ndR old new S)).sum
def ndG (old new:List UInt8)(S:Nat)(seq:List Int):Nat:=(seq.map (ndR old new S)).foldl max 0
section
variable {old new:List UInt8}{S i:Nat}{seq:List Int}
theorem yi (t:Int):ndR old new S t≤5+5*S:=by
 have:=xC (ctF old t.toNat S) (ctF new t.toNat S);rw [b9] at this
 exact this
theorem lW (h:i<seq.length):ndT old new S (seq.take (i+1))=ndT old new S (seq.take i)+ndR old new S (seq.getD i 0):=by
 unfold ndT;rw [aA seq 0 i h,List.map_append,List.sum_append];exact Zm 0x51e
theorem tE (h:i<seq.length):ndG old new S (seq.take (i+1))=max (ndG old new S (seq.take i)) (ndR old new S (seq.getD i 0)):=by
 unfold ndG;rw [aA seq 0 i h,List.map_append,List.foldl_append];exact Zm 0x2
theorem yh (hS:S≤4096):∀ i,ndT old new S (seq.take i)≤20485*i
  |0=>by rw [List.take_zero];exact Nat.le_refl _
  |i+1=>by
    have ih:=yh hS i
    by_cases h:i<seq.length
    · rw [lW h]
      have:=yi (old:=old) (new:=new) (S:=S) (seq.getD i 0)
      omega
    · rw [List.take_of_length_le oe] at*
      omega
theorem yj (hS:S≤4096):∀ i,ndG old new S (seq.take i)≤20485
  |0=>by rw [List.take_zero];exact Nat.zero_le _
  |i+1=>by
    have ih:=yj hS i
    by_cases h:i<seq.length
    · rw [tE h]
      have:=yi (old:=old) (new:=new) (S:=S) (seq.getD i 0)
      omega
    · rw [List.take_of_length_le oe] at*
      omega
end
structure Nd where
  s:Int
  u:Int
  r:Int
  e:Int
  o:Int
  deriving DecidableEq
def ndN (u s k:Nat):Nat:=u+s+5*k+12
def ndW (S:Nat):Nat:=max 1 ((S-8)/30)
def ndU (T S:Nat):Nat:=(T+S-1)/S
def ndQ (n w:Nat):Nat:=n/w
theorem Ir {T S:Nat}:ndU T S≤T+S:=Nat.le_trans (Nat.div_le_self _ _) oe
theorem It (n w:Nat):ndQ n w≤n:=Nat.div_le_self _ _
def ndC (n w:Nat):Nat:=ndQ n w+1
def ML (u s k c:Nat):Nat:=u+s+4*k+1+c
def MK (u s k n c:Nat):Nat:=2*u+2*s+9*k+2+n+2*c
def nd5 (u s k S g:Nat):Nd:=⟨(s:Int),(u:Int),((2*S+g:Nat):Int),((ML u s k (ndC (ndN u s k) (ndW S)):Nat):Int),((MK u s k (ndN u s k) (ndC (ndN u s k) (ndW S)):Nat):Int)⟩
def dM (lf:Bool)(sz n inn out:Int)(ops:List Po)(seq st:List Int)(old:List UInt8):Int:=
  if eD lf sz n inn out ops seq st=false then 190 else if (old.length:Int)≠inn then 61 else if 65535<ndT old (bf old (ah ops)) sz.toNat seq then 2 else 0
def eQ (lf:Bool)(sz n inn out:Int)(ops:List Po)(seq st:List Int)(old:List UInt8):Nd:=
  if dM lf sz n inn out ops seq st old=0 then nd5 (ndU (ndT old (bf old (ah ops)) sz.toNat seq) sz.toNat) st.length seq.length sz.toNat (ndG old (bf old (ah ops)) sz.toNat seq) else ⟨0,0,0,0,0⟩
section
variable {lf:Bool}{sz n inn out:Int}{ops:List Po}{seq st:List Int}{old:List UInt8}
theorem FH (h:eD lf sz n inn out ops seq st=false):dM lf sz n inn out ops seq st old=190:=by unfold dM;rw [if_pos h]
theorem FG (h:eD lf sz n inn out ops seq st=true)(h2:(old.length:Int)≠inn):dM lf sz n inn out ops seq st old=61:=by unfold dM;rw [if_neg oaz,if_pos h2]
theorem FF (h:eD lf sz n inn out ops seq st=true)(h2:(old.length:Int)=inn)(h3:65535<ndT old (bf old (ah ops)) sz.toNat seq):dM lf sz n inn out ops seq st old=2:=by unfold dM;rw [if_neg oaz,if_neg (fun g=>g h2),if_pos h3]
theorem yf (h:eD lf sz n inn out ops seq st=true)(h2:(old.length:Int)=inn)(h3:ndT old (bf old (ah ops)) sz.toNat seq≤65535):dM lf sz n inn out ops seq st old=0:=by unfold dM;rw [if_neg oaz,if_neg (fun g=>g h2),if_neg oe]
theorem tB (h:dM lf sz n inn out ops seq st old≠0):eQ lf sz n inn out ops seq st old=⟨0,0,0,0,0⟩:=by unfold eQ;rw [if_neg h]
theorem lV (h:dM lf sz n inn out ops seq st old=0):eQ lf sz n inn out ops seq st old=nd5 (ndU (ndT old (bf old (ah ops)) sz.toNat seq) sz.toNat) st.length seq.length sz.toNat (ndG old (bf old (ah ops)) sz.toNat seq):=by unfold eQ;rw [if_pos h]
theorem v8 (h:eD lf sz n inn out ops seq st=true):seq.length=(aH (ah ops) inn sz.toNat n.toNat).length∧∀ i,i<seq.length→∃ t:Nat,seq.getD i 0=(t:Int)∧t<n.toNat∧ij (ah ops) inn sz.toNat t=true:=by
 obtain ⟨_,_,_,h4,_,_⟩:=eI.1 h;apply Y 0x241f;intro hp;rw [h4] at hp;refine ⟨by rw [← hp.length_eq,bm],fun i hi=>?_⟩;have hm:seq.getD i 0∈seq:=by
  apply Y 0x5b3f
  exact List.getElem_mem hi
 obtain ⟨t,ht,e⟩:=List.mem_map.1 (hp.mem_iff.2 hm);have:=dC.1 ht;exact ⟨t,e.symm,this.1,this.2⟩
end
theorem HI {S:Nat}:((S:Int)-8).tdiv 30=(((S-8)/30:Nat):Int):=by
 rcases Nat.lt_or_ge S 8 with h|h
 ·have h4:(((S:Int)-8).tdiv 30).natAbs=((S:Int)-8).natAbs/30:=Int.natAbs_tdiv _ 30;have h5:((S:Int)-8).natAbs/30=0:=oe;have h6:(S-8)/30=0:=oe;rw [h5] at h4;rw [h6];exact Zm 0x18
 rw [show (S:Int)-8=((S-8:Nat):Int) by omega];exact Zm 0x2
section
variable {X:Cx}{β:Base}{Γ:Env}{R H:List Pr}
theorem Dy {t ty:Nat}{x y:Operand}{a b:Int}{q:Nat}(hx:ev Γ x=some (.int .i64 a))(hy:ev Γ y=some (.int .i64 b))(h0:b=30)(hq:a.tdiv 30=(q:Int))(h1: -9223372036854775808≤a)(h2:a≤9223372036854775807):
    Ev X β Γ R H (.binOp .quo t x y ty) (.int .i64 (q:Int)):=by
 intro ρ w hρ hs o ho;subst h0;rw [← hq];have hb:¬ (30:Int)=0:=ob;have h3:a.tdiv 30≤9223372036854775807∧ -9223372036854775808≤a.tdiv 30:=by
  have h4:(a.tdiv 30).natAbs=a.natAbs/30:=Int.natAbs_tdiv a 30;exact Zm 0x18
 simp [execOp,ho,hρ _ _ hx,hρ _ _ hy,iY,binOp,Op.intDiv,iP (a:=a.tdiv 30) h3.2 h3.1]
end
end Go.Sl
