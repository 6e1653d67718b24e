/-
  Part of a proof.
-/
import Derived.Test.YtbpddeiogcgegaaGreatYPl
import Derived.Test.YtbpddeiogcgegaaGreatYSlR
set_option maxHeartbeats 0
set_option maxRecDepth 4000
set_option linter.all false
namespace Go.Sl
section
variable {X:Cx}{β:Base}{Γ:Env}{R H:List Pr}
theorem I4 {t ty:Nat}{x y:Operand}{yk:IntKind}{a:Int}(hx:ev Γ x=some (.int .i64 a))(hy:ev Γ y=some (.int yk 8))(h0:0≤a)(h1:a≤255):Ev X β Γ R H (.binOp .shl t x y ty) (.int .i64 (a*256)):=by
 intro ρ w hρ hw o ho;have hg:(eqGuard .shl t x y (.int .i64 a) (.int yk 8)).run X.P w=.ok () w:=qT;have hw1:IntKind.i64.wrap (a*256)=a*256:=j9 oe oe
 simp [execOp,ho,hρ _ _ hx,hρ _ _ hy,hg,binOp_shl,Op.shift,IntKind.bits,hw1]
theorem Fj (a b:UInt8):bop .or .i64 ((a.toNat:Int)*256) (b.toNat:Int)=(a.toNat:Int)*256+(b.toNat:Int):=by
 have ha:=tD a;have hb:=tD b;have e1:(a.toNat:Int)*256=((a.toNat*256:Nat):Int):=oe
 show IntKind.i64.wrap ((BitVec.ofInt 64 ((a.toNat:Int)*256)|||BitVec.ofInt 64 (b.toNat:Int)).toNat:Int)=_;rw [e1,BitVec.ofInt_natCast,BitVec.ofInt_natCast,BitVec.toNat_or,BitVec.toNat_ofNat,BitVec.toNat_ofNat,Nat.mod_eq_of_lt oe,Nat.mod_eq_of_lt oe];have e2:a.toNat*256|||b.toNat=a.toNat*256+b.toNat:=by
  have:=Nat.shiftLeft_add_eq_or_of_lt (a:=a.toNat) (b:=b.toNat) (i:=8) oe;rw [Nat.shiftLeft_eq,show (2:Nat)^8=256 from rfl] at this
  exact this.symm
 rw [e2,j9 oe oe]
 omega
theorem I5 {t ty:Nat}{x y:Operand}{a b:UInt8}(hx:ev Γ x=some (.int .i64 ((a.toNat:Int)*256)))(hy:ev Γ y=some (.int .i64 (b.toNat:Int))):Ev X β Γ R H (.binOp .or t x y ty) (.int .i64 ((a.toNat:Int)*256+(b.toNat:Int))):=
  (Ev.pure (v:=.int .i64 (bop .or .i64 ((a.toNat:Int)*256) (b.toNat:Int))) qA).cast (by rw [Fj])
end
def be2 (l:List UInt8):Nat:=(l.getD 0 0).toNat*256+(l.getD 1 0).toNat
theorem mO (l:List UInt8):be2 l<65536:=by
 have h0:=tD (l.getD 0 0);have h1:=tD (l.getD 1 0)
 unfold be2
 omega
theorem IL (l:List UInt8):((l.getD 0 0).toNat:Int)*256+((l.getD 1 0).toNat:Int)=(be2 l:Int):=by unfold be2;omega
theorem bw {R H:List Pr}{A:Option Addr}{l:List UInt8}(h:Has R H (Rd A (U8 l)))(c k:Nat)(hc:l.length≤c):Has R H (Rd (bF A c k 1) (U8 (l.drop k))):=by
 have h2:=h.sub c k 1 l.length oO
 rwa [Nat.mul_one,jg,List.take_of_length_le qY] at h2
def aj (l:List UInt8)(last:Int)(size:Int):Prop:=4≤l.length∧last≤(be2 l:Int)∧1≤be2 (l.drop 2)∧(be2 l:Int)+(be2 (l.drop 2):Int)≤size∧be2 (l.drop 2)≤l.length-4
instance (l:List UInt8)(last size:Int):Decidable (aj l last size):=by unfold aj;infer_instance
def vE (out:List UInt8)(p:Nat)(b:List UInt8):List UInt8:=out.take p++b++out.drop (p+b.length)
theorem nF {out b:List UInt8}{p:Nat}(h:p+b.length≤out.length):(vE out p b).length=out.length:=by
 unfold vE
 simp only [List.length_append,List.length_take,List.length_drop]
 omega
theorem Sp (out b:List UInt8)(p:Nat):(U8 out).take p++U8 b++(U8 out).drop (p+(U8 b).length)=U8 (vE out p b):=by
 unfold vE;rw [aH]
 simp [U8,List.map_take,List.map_drop]
theorem GY {g c l:Nat}(h:l<c):bF (some ⟨g,0,none⟩) c l 1=some ⟨g,l,none⟩:=by
 unfold bF;rw [if_neg oe,Nat.mul_one]
 unfold Addr.add
 by_cases h0:l=0
 ·subst h0
  simp
 simp [h0]
abbrev Pc:=Nat×List UInt8
def goR:Nat→Int→List UInt8→Int→Option (List UInt8×List Pc)
  |0,_,l,_=>some (l,[])
  |k+1,size,l,last=>if aj l last size then (goR k size (((l.drop 2).drop 2).drop (be2 (l.drop 2))) ((be2 l:Int)+(be2 (l.drop 2):Int))).map (fun r=>(r.1,(be2 l,((l.drop 2).drop 2).take (be2 (l.drop 2)))::r.2)) else none
def bS (rec:List UInt8)(size:Int):Option (List Pc):=
  if rec.length<5∨64≤(rec.getD 0 0).toNat then none
  else match goR (be2 (rec.drop 1)) size ((rec.drop 1).drop 2) 0 with
    |none=>none
    |some r=>if r.1.length=2∧be2 r.1=rec.length then some r.2 else none
def cP (out:List UInt8)(ps:List Pc):List UInt8:=ps.foldl (fun o p=>vE o p.1 p.2) out
theorem gI (out:List UInt8)(ps:List Pc)(p:Pc):cP out (ps++[p])=vE (cP out ps) p.1 p.2:=by simp [cP]
def lU (n:Nat)(size:Int)(l0:List UInt8)(k:Nat)(l:List UInt8)(last:Int)(ps:List Pc):Prop:=goR n size l0 0=(goR k size l last).map fun r=>(r.1,ps++r.2)
theorem lU.start (n:Nat)(size:Int)(l0:List UInt8):lU n size l0 n l0 0 []:=by
 unfold lU
 cases goR n size l0 0<;>simp
theorem lU.next {n:Nat}{size:Int}{l0:List UInt8}{k:Nat}{l:List UInt8}{last:Int}{ps:List Pc}(h:lU n size l0 (k+1) l last ps)(hp:aj l last size):
    lU n size l0 k (((l.drop 2).drop 2).drop (be2 (l.drop 2))) ((be2 l:Int)+(be2 (l.drop 2):Int)) (ps++[(be2 l,((l.drop 2).drop 2).take (be2 (l.drop 2)))]):=by
 unfold lU at h ⊢;rw [h,goR,if_pos hp,Option.map_map]
 congr 1
 funext r
 simp
theorem lU.bad {n:Nat}{size:Int}{l0:List UInt8}{k:Nat}{l:List UInt8}{last:Int}{ps:List Pc}(h:lU n size l0 (k+1) l last ps)(hp:¬aj l last size):goR n size l0 0=none:=by
 unfold lU at h;rw [h,goR,if_neg hp]
 rfl
theorem lU.done {n:Nat}{size:Int}{l0 l:List UInt8}{last:Int}{ps:List Pc}(h:lU n size l0 0 l last ps):goR n size l0 0=some (l,ps):=by
 unfold lU at h;rw [h,goR]
 simp
theorem vL {rec:List UInt8}{size:Int}(h:rec.length<5∨64≤(rec.getD 0 0).toNat):bS rec size=none:=if_pos h
theorem nK {rec:List UInt8}{size:Int}(h2:goR (be2 (rec.drop 1)) size ((rec.drop 1).drop 2) 0=none):bS rec size=none:=by
 unfold bS
 split
 ·rfl
 rw [h2]
theorem nJ {rec l:List UInt8}{size:Int}{ps:List Pc}(h:¬(rec.length<5∨64≤(rec.getD 0 0).toNat))(h2:goR (be2 (rec.drop 1)) size ((rec.drop 1).drop 2) 0=some (l,ps)):bS rec size=if l.length=2∧be2 l=rec.length then some ps else none:=by
 unfold bS;rw [if_neg h,h2]
theorem Gw {l rec:List UInt8}{ps:List Pc}{E:Option (List Pc)}(hE:E=if l.length=2∧be2 l=rec.length then some ps else none)(h40:2≤l.length)(h44:(be2 l:Int)=(rec.length:Int)):(((l.drop 2).length:Int)==0)=E.isSome:=by
 subst hE;rw [List.length_drop]
 by_cases h:l.length=2
 ·rw [if_pos ⟨h,by omega⟩,h]
  rfl
 rw [if_neg oe];have:¬ (((l.length-2:Nat):Int)=0):=oe
 simpa using this
theorem Kv {l rec out:List UInt8}{ps:List Pc}{E:Option (List Pc)}(hE:E=if l.length=2∧be2 l=rec.length then some ps else none):∀ qs,E=some qs→cP out ps=cP out qs:=by
 subst hE;intro qs h
 split at h
 ·injection h with h
  rw [h]
 cases h
section
variable {X:Cx}{β:Base}{n:Nat}{ds:List Deferred}{ops:Array Oper}{Q:Exit→Act→World→Prop}{Γ:Env}{R H:List Pr}{rest:List Oper}
theorem I0 {d t e ty:Nat}{pos:String}{af:Array Edge}{i ei:Ti}(ht:au t X.tab=some i)(hdesc:i.desc=.slice e)(he:au e X.tab=some ei)(hd:Nat.blt d n=true)
    (k:∀ A,L X β n ds ops Q rest ((d,.slice A 0 0)::Γ) R (H++[Own e ei.size A 0 0 []])):L X β n ds ops Q (⟨some d,.buildSlice t 0 #[],ty,pos,af,none⟩::rest) Γ R H:=by
 refine L.mk hd e ei.size 0 [] qX Ob (fun A=>.slice A 0 0) ?_ k;intro ρ w hρ hs o ho;obtain ⟨e1,_⟩:=X.ok _ _ ht;rw [hdesc] at e1;apply Y 0xb6e;intro hS;exact Zm 0x6b0fca2f
end
theorem rangesV_at:∀ (l:List (Nat×Nat)) (k:Nat),k<l.length→((bD l).drop (k*2)).take 2=[.int .i64 ((l.getD k (0,0)).1:Int),.int .i64 ((l.getD k (0,0)).2:Int)]
  |[],_,h=>absurd h (Nat.not_lt_zero _)
  |_::_,0,_=>rfl
  |_::l,k+1,h=>by
    rw [show (k+1)*2=k*2+2 from by omega]
    exact rangesV_at l k qi
theorem eM (l:List (Nat×Nat))(k q:Nat)(hk:k<l.length)(hq:q<2):(bD l)[k*2+q]?=[Value.int .i64 ((l.getD k (0,0)).1:Int),.int .i64 ((l.getD k (0,0)).2:Int)][q]?:=by
 have h:=rangesV_at l k hk;exact Zm 0x361f
theorem jk:∀ (l:List (Nat×Nat)) (k y:Nat),k<l.length→(bD l).set (k*2+1) (.int .i64 (y:Int))=bD (l.set k ((l.getD k (0,0)).1,y))
  |[],_,_,h=>absurd h (Nat.not_lt_zero _)
  |_::_,0,_,_=>rfl
  |r::l,k+1,y,h=>by
    have ih:=jk l k y qi
    rw [show (k+1)*2+1=(k*2+1)+1+1 from by omega]
    show [Value.int .i64 (r.1:Int),.int .i64 (r.2:Int)]++(bD l).set (k*2+1) (.int .i64 (y:Int))=_
    rw [ih]
    rfl
theorem dz {l:List (Nat×Nat)}{k:Nat}(hk:k<l.length):0<(bD l).length:=by rw [tS];omega
theorem yS {s:List (Nat×Nat)}{i:Nat}(h0:0<s.length)(h:(s.getD (s.length-1) (0,0)).2=i):gw s i=s.set (s.length-1) ((s.getD (s.length-1) (0,0)).1,i+1):=by
 obtain ⟨t,r,rfl⟩:∃ t r,s=t++[r]:=⟨s.dropLast,s.getLast (by intro e;subst e;cases h0),(List.dropLast_concat_getLast _).symm⟩
 simp only [List.length_append,List.length_cons,List.length_nil,Nat.zero_add,Nat.add_sub_cancel] at h ⊢;have hg:(t++[r]).getD t.length (0,0)=r:=Ob;rw [hg] at h ⊢;obtain ⟨p,q⟩:=r
 simp only at h;subst h;rw [iJ,List.set_append_right _ _ (Nat.le_refl _),Nat.sub_self]
 rfl
theorem pT {s:List (Nat×Nat)}{i:Nat}(h:s.length=0∨(s.getD (s.length-1) (0,0)).2≠i):gw s i=s++[(i,i+1)]:=by
 rcases h with h|h
 ·obtain rfl:=List.eq_nil_of_length_eq_zero h
  rfl
 unfold gw
 split
 ·next r hr=>
  rw [if_neg];intro e;obtain ⟨t,rfl⟩:=List.getLast?_eq_some_iff.1 hr
  simp at h
  exact h e
 rfl
theorem dF (s:List (Nat×Nat))(i:Nat):gw s i=s++[(i,i+1)]∨∃ t p,s=t++[(p,i)]∧gw s i=t++[(p,i+1)]:=by
 rcases List.eq_nil_or_concat s with rfl|⟨t,⟨p,q⟩,rfl⟩
 ·exact .inl rfl
 by_cases h:q=i
 ·subst h
  exact .inr ⟨t,p,by simp,by rw [List.concat_eq_append,iJ]⟩
 refine .inl (pT (.inr ?_))
 simpa using h
theorem dx (a b:List UInt8):∀ k,∀ r∈aA a b k,r.1<r.2∧r.2≤k
  |0,r,h=>by cases h
  |k+1,r,h=>by
    have ih:=dx a b k
    rw [aA] at h
    split at h
    · have:=ih r h;omega
    · rcases dF (aA a b k) k with e|⟨t,p,e1,e2⟩
      · rw [e] at h
        rcases List.mem_append.1 h with h|h
        · have:=ih r h;omega
        · simp at h;subst h;simp
      · rw [e2] at h
        rcases List.mem_append.1 h with h|h
        · have:=ih r (by rw [e1];exact List.mem_append_left _ h);omega
        · simp at h
          subst h
          have:=ih (p,k) obC
          simp only at this ⊢
          omega
theorem iv {a b:List UInt8}{k i:Nat}(h:i<(aA a b k).length):((aA a b k).getD i (0,0)).1<((aA a b k).getD i (0,0)).2∧((aA a b k).getD i (0,0)).2≤k:=
  dx a b k _ (by rw [List.getD_eq_getElem?_getD,List.getElem?_eq_getElem h];exact List.getElem_mem h)
theorem fE (a b:List UInt8):∀ k,(aA a b k).length≤k
  |0=>Nat.le_refl _
  |k+1=>by
    rw [aA]
    have:=fE a b k
    split
    · omega
    · rcases dF (aA a b k) k with e|⟨t,p,e1,e2⟩
      · rw [e];simp;omega
      · rw [e2];rw [e1] at this;simp at this ⊢;omega
theorem s4 (a b:List UInt8):∀ k,(aA a b k).Pairwise fun x y=>x.2≤y.1
  |0=>List.Pairwise.nil
  |k+1=>by
    have ih:=s4 a b k
    have hm:=dx a b k
    rw [aA]
    split
    · exact ih
    · rcases dF (aA a b k) k with e|⟨t,p,e1,e2⟩
      · rw [e]
        refine List.pairwise_append.2 ⟨ih,List.pairwise_singleton _ _,fun x hx y hy=>?_⟩
        simp at hy
        subst hy
        exact (hm x hx).2
      · rw [e2]
        rw [e1] at ih
        have h2:=List.pairwise_append.1 ih
        refine List.pairwise_append.2 ⟨h2.1,List.pairwise_singleton _ _,fun x hx y hy=>?_⟩
        simp at hy
        subst hy
        exact h2.2.2 x hx (p,k) Ob
def sQ (a b:List UInt8):Nat→Nat
  |0=>0
  |k+1=>if a.getD k 0=b.getD k 0 then sQ a b k else sQ a b k+1
def tot (s:List (Nat×Nat)):Nat:=s.foldr (fun r t=>(r.2-r.1)+t) 0
theorem m8 (s t:List (Nat×Nat)):tot (s++t)=tot s+tot t:=by
 induction s with
 |nil=>simp [tot]
 |cons r s ih=>simp only [tot,List.cons_append,List.foldr_cons] at ih ⊢;omega
theorem m7 (a b:List UInt8):∀ k,tot (aA a b k)=sQ a b k
  |0=>rfl
  |k+1=>by
    have ih:=m7 a b k
    have hm:=dx a b k
    rw [aA,sQ]
    split
    · exact ih
    · rcases dF (aA a b k) k with e|⟨t,p,e1,e2⟩
      · rw [e,m8,ih]
        simp [tot]
      · have h3:=hm (p,k) obC
        rw [e2,m8]
        rw [e1,m8] at ih
        simp only [tot,List.foldr_cons,List.foldr_nil] at ih ⊢
        simp only at h3
        omega
theorem jY (a b:List UInt8):∀ k,sQ a b k≤k
  |0=>Nat.le_refl _
  |k+1=>by
    have:=jY a b k
    rw [sQ]
    split<;>omega
def cov (s:List (Nat×Nat))(i:Nat):Prop:=∃ r∈s,r.1≤i∧i<r.2
theorem BZ (a b:List UInt8):∀ k i,cov (aA a b k) i↔i<k∧a.getD i 0≠b.getD i 0
  |0,i=>⟨(by rintro ⟨r,h,_⟩;cases h),fun h=>by omega⟩
  |k+1,i=>by
    have ih:=BZ a b k i
    rw [aA]
    split
    · next he=>
      rw [ih]
      constructor
      · rintro ⟨h1,h2⟩;exact ⟨by omega,h2⟩
      · rintro ⟨h1,h2⟩
        refine ⟨?_,h2⟩
        rcases Nat.lt_or_eq_of_le (Nat.le_of_lt_succ h1) with h|h
        · exact h
        · subst h;exact absurd he h2
    · next he=>
      have key:cov (gw (aA a b k) k) i↔cov (aA a b k) i∨i=k:=by
        rcases dF (aA a b k) k with e|⟨t,p,e1,e2⟩
        · rw [e]
          constructor
          · rintro ⟨r,hr,h⟩
            rcases List.mem_append.1 hr with hr|hr
            · exact .inl ⟨r,hr,h⟩
            · simp at hr;subst hr;simp only at h;exact .inr oe
          · rintro (⟨r,hr,h⟩|rfl)
            · exact ⟨r,List.mem_append_left _ hr,h⟩
            · exact ⟨(i,i+1),by simp,Nat.le_refl _,Nat.lt_succ_self _⟩
        · have h3:=dx a b k (p,k) obC
          simp only at h3
          rw [e2,e1]
          constructor
          · rintro ⟨r,hr,h⟩
            rcases List.mem_append.1 hr with hr|hr
            · exact .inl ⟨r,List.mem_append_left _ hr,h⟩
            · simp at hr;subst hr;simp only at h
              by_cases hi:i=k
              · exact .inr hi
              · exact .inl ⟨(p,k),by simp,h.1,by simp only;omega⟩
          · rintro (⟨r,hr,h⟩|rfl)
            · rcases List.mem_append.1 hr with hr|hr
              · exact ⟨r,List.mem_append_left _ hr,h⟩
              · simp at hr;subst hr;simp only at h
                exact ⟨(p,k+1),by simp,h.1,by simp only;omega⟩
            · exact ⟨(p,i+1),by simp,Nat.le_of_lt h3.1,Nat.lt_succ_self _⟩
      rw [key,ih]
      constructor
      · rintro (⟨h1,h2⟩|rfl)
        · exact ⟨by omega,h2⟩
        · exact ⟨by omega,he⟩
      · rintro ⟨h1,h2⟩
        rcases Nat.lt_or_eq_of_le (Nat.le_of_lt_succ h1) with h|h
        · exact .inl ⟨h,h2⟩
        · exact .inr h
def tw (n:Nat):List UInt8:=[UInt8.ofNat (n/256),UInt8.ofNat n]
theorem rX (n:Nat):UInt8.ofInt (n:Int)=UInt8.ofNat n:=by
 apply UInt8.toNat.inj;apply Y 0x740f
 omega
theorem MH (n:Nat):UInt8.ofInt ((n:Int).fdiv (2^8))=UInt8.ofNat (n/256):=by
 rw [Int.fdiv_eq_ediv_of_nonneg _ ob,show ((2:Int)^8)=((256:Nat):Int) from rfl,← Int.natCast_ediv,rX]
theorem te {n:Nat}(h:n<65536)(l:List UInt8):be2 (tw n++l)=n:=by
 unfold be2 tw
 simp [UInt8.toNat_ofNat']
 omega
def rgB (old:List UInt8)(r:Nat×Nat):List UInt8:=tw r.1++tw (r.2-r.1)++(old.drop r.1).take (r.2-r.1)
theorem Ht {old:List UInt8}{r:Nat×Nat}(h:r.2≤old.length):(rgB old r).length=4+(r.2-r.1):=by
 simp [rgB,tw]
 omega
def iG (x:UInt8)(old:List UInt8)(s:List (Nat×Nat))(k:Nat):List UInt8:=x::(tw s.length++(s.take k).flatMap (rgB old))
theorem rE {x:UInt8}{old:List UInt8}{s:List (Nat×Nat)}{k:Nat}(h:k<s.length):
    iG x old s k++tw (s.getD k (0,0)).1++tw ((s.getD k (0,0)).2-(s.getD k (0,0)).1)++(old.drop (s.getD k (0,0)).1).take ((s.getD k (0,0)).2-(s.getD k (0,0)).1)=iG x old s (k+1):=by
 unfold iG;rw [aC s (0,0) k h,List.flatMap_append]
 simp [rgB]
theorem n3 {old:List UInt8}:∀ (s:List (Nat×Nat)),(∀ r∈s,r.2≤old.length)→(s.flatMap (rgB old)).length=4*s.length+tot s
  |[],_=>rfl
  |r::s,h=>by
    have ih:=n3 s (fun q hq=>h q (List.mem_cons_of_mem _ hq))
    rw [List.flatMap_cons,List.length_append,ih,Ht (h r (List.mem_cons_self ..))]
    simp only [List.length_cons,tot,List.foldr_cons]
    omega
theorem tE (s:List (Nat×Nat))(k:Nat):tot (s.take k)≤tot s:=by
 have:=m8 (s.take k) (s.drop k);rw [List.take_append_drop] at this
 omega
theorem vA {x:UInt8}{a b:List UInt8}(k:Nat):(iG x a (aA a b a.length) k).length≤3+5*a.length:=by
 have h1:=n3 (old:=a) ((aA a b a.length).take k) (fun r hr=>(dx a b a.length r (List.mem_of_mem_take hr)).2);have h2:=tE (aA a b a.length) k;have h3:=m7 a b a.length;have h4:=jY a b a.length;apply Y 0x850f;intro h5;have h6:((aA a b a.length).take k).length≤(aA a b a.length).length:=Oq
 unfold iG
 simp only [List.length_cons,List.length_append,h1,tw,List.length_nil]
 omega
def l7 (x:UInt8)(old:List UInt8)(s:List (Nat×Nat)):List UInt8:=iG x old s s.length++tw ((iG x old s s.length).length+2)
def cV (sec:Int)(old new:List UInt8):Prop:=sec<0∨64≤sec∨old.length≠new.length∨old.length<1∨4096<old.length
instance (sec:Int)(old new:List UInt8):Decidable (cV sec old new):=by unfold cV;infer_instance
def iQ (sec:Int)(old new:List UInt8):List UInt8:=if cV sec old new then [] else l7 (UInt8.ofInt sec) old (aA old new old.length)
def Jc (sec:Int)(old new:List UInt8):Int:=if cV sec old new then 210 else 0
theorem nA {sec:Int}{old new:List UInt8}(h:cV sec old new):iQ sec old new=[]:=if_pos h
theorem D3 {sec:Int}{old new:List UInt8}(h:cV sec old new):Jc sec old new=210:=if_pos h
theorem gz {sec:Int}{old new:List UInt8}(h:¬cV sec old new):iQ sec old new=l7 (UInt8.ofInt sec) old (aA old new old.length):=if_neg h
theorem tO {sec:Int}{old new:List UInt8}(h:¬cV sec old new):Jc sec old new=0:=if_neg h
theorem nB {x:UInt8}{a b:List UInt8}:(l7 x a (aA a b a.length)).length=5+4*(aA a b a.length).length+sQ a b a.length:=by
 have h1:=n3 (old:=a) (aA a b a.length) (fun r hr=>(dx a b a.length r hr).2)
 unfold l7 iG;apply Y 0xe4e
 simp only [List.length_cons,List.length_append,h1,tw,List.length_nil,m7]
 omega
theorem ny (sec:Int)(old new:List UInt8):(iQ sec old new).length≤20485:=by
 by_cases h:cV sec old new
 ·rw [nA h]
  simp
 rw [gz h,nB];have h4:=jY old new old.length;have h5:=fE old new old.length
 unfold cV at h
 omega
def pcs (old:List UInt8)(s:List (Nat×Nat)):List Pc:=s.map fun r=>(r.1,(old.drop r.1).take (r.2-r.1))
theorem wu {old:List UInt8}{size:Nat}(ho:old.length≤size)(hs:size<65536)(tl:List UInt8):∀ (s:List (Nat×Nat)) (last:Nat),(∀ r∈s,r.1<r.2∧r.2≤old.length∧last≤r.1)→(s.Pairwise fun x y=>x.2≤y.1)→
    goR s.length (size:Int) (s.flatMap (rgB old)++tl) (last:Int)=some (tl,pcs old s)
  |[],_,_,_=>rfl
  |r::s,last,h,hp=>by
    obtain ⟨h1,h2,h3⟩:=h r (List.mem_cons_self ..)
    have hp2:=List.pairwise_cons.1 hp
    have ih:=wu ho hs tl s r.2 (fun q hq=>⟨(h q (List.mem_cons_of_mem _ hq)).1,(h q (List.mem_cons_of_mem _ hq)).2.1,hp2.1 q hq⟩) hp2.2
    have e0:(r::s).flatMap (rgB old)++tl=tw r.1++(tw (r.2-r.1)++((old.drop r.1).take (r.2-r.1)++(s.flatMap (rgB old)++tl))):=by simp [rgB,List.append_assoc]
    have e1:be2 ((r::s).flatMap (rgB old)++tl)=r.1:=by rw [e0,te oe]
    have e2:((r::s).flatMap (rgB old)++tl).drop 2=tw (r.2-r.1)++((old.drop r.1).take (r.2-r.1)++(s.flatMap (rgB old)++tl)):=by rw [e0];rfl
    have e3:be2 (((r::s).flatMap (rgB old)++tl).drop 2)=r.2-r.1:=by rw [e2,te oe]
    have e4:(((r::s).flatMap (rgB old)++tl).drop 2).drop 2=(old.drop r.1).take (r.2-r.1)++(s.flatMap (rgB old)++tl):=by rw [e2];rfl
    have e5:((old.drop r.1).take (r.2-r.1)).length=r.2-r.1:=qt
    have e6:((r::s).flatMap (rgB old)++tl).length=4+(r.2-r.1)+(s.flatMap (rgB old)++tl).length:=by rw [e0];simp only [List.length_append,tw,List.length_cons,List.length_nil,e5];omega
    have hok:aj ((r::s).flatMap (rgB old)++tl) (last:Int) (size:Int):=by
      unfold aj
      rw [e1,e3,e6]
      omega
    rw [List.length_cons,goR,if_pos hok,e1,e3,e4,List.drop_left' e5,List.take_left' e5,show (r.1:Int)+((r.2-r.1:Nat):Int)=(r.2:Int) from by omega,ih]
    rfl
theorem rT {x:UInt8}{a b:List UInt8}(hx:x.toNat<64)(hl:a.length≤4096){size:Nat}(ho:a.length≤size)(hs:size<65536):bS (l7 x a (aA a b a.length)) (size:Int)=some (pcs a (aA a b a.length)):=by
 have hlen:=nB (x:=x) (a:=a) (b:=b);have h4:=jY a b a.length;apply Y 0x850f;intro h5;have hm:=dx a b a.length;have hg:=wu (old:=a) ho hs (tw ((iG x a (aA a b a.length) (aA a b a.length).length).length+2)) (aA a b a.length) 0 (fun r hr=>⟨(hm r hr).1,(hm r hr).2,Nat.zero_le _⟩) (s4 a b a.length);have e0:l7 x a (aA a b a.length)=x::(tw (aA a b a.length).length++((aA a b a.length).flatMap (rgB a)++tw ((iG x a (aA a b a.length) (aA a b a.length).length).length+2))):=by
  unfold l7;rw [show iG x a (aA a b a.length) (aA a b a.length).length=x::(tw (aA a b a.length).length++(aA a b a.length).flatMap (rgB a)) from by unfold iG;rw [List.take_length]]
  simp
 have e1:(l7 x a (aA a b a.length)).getD 0 0=x:=by rw [e0];rfl
 have e2:be2 ((l7 x a (aA a b a.length)).drop 1)=(aA a b a.length).length:=by rw [e0];exact te oe _
 have e3:((l7 x a (aA a b a.length)).drop 1).drop 2=(aA a b a.length).flatMap (rgB a)++tw ((iG x a (aA a b a.length) (aA a b a.length).length).length+2):=by rw [e0];rfl
 have e4:(l7 x a (aA a b a.length)).length=(iG x a (aA a b a.length) (aA a b a.length).length).length+2:=by unfold l7;simp [tw]
 rw [nJ (l:=tw ((iG x a (aA a b a.length) (aA a b a.length).length).length+2)) (ps:=pcs a (aA a b a.length)) (by rw [e1];omega) (by rw [e2,e3];exact hg)];rw [if_pos];refine ⟨rfl,?_⟩;have:=te (n:=(iG x a (aA a b a.length) (aA a b a.length).length).length+2) oe [];rw [List.append_nil] at this;rw [this,e4]
theorem vD {out b:List UInt8}{p i:Nat}(h:p+b.length≤out.length)(d:UInt8):(vE out p b).getD i d=if p≤i∧i<p+b.length then b.getD (i-p) d else out.getD i d:=by
 unfold vE
 simp only [List.getD_eq_getElem?_getD,List.append_assoc]
 by_cases h1:i<p
 ·rw [List.getElem?_append_left Oq,List.getElem?_take,if_pos h1,if_neg oe]
 rw [List.getElem?_append_right Oq,List.length_take,show min p out.length=p from by omega]
 by_cases h2:i<p+b.length
 ·rw [List.getElem?_append_left oe,if_pos ⟨by omega,h2⟩]
 rw [List.getElem?_append_right oe,List.getElem?_drop,if_neg oe,show p+b.length+(i-p-b.length)=i from by omega]
theorem mQ {old:List UInt8}:∀ (s:List (Nat×Nat)) (out:List UInt8),(∀ r∈s,r.1<r.2∧r.2≤old.length)→out.length=old.length→(cP out (pcs old s)).length=old.length∧
    (∀ i,cov s i→(cP out (pcs old s)).getD i 0=old.getD i 0)∧(∀ i,(cP out (pcs old s)).getD i 0=old.getD i 0∨(cP out (pcs old s)).getD i 0=out.getD i 0)
  |[],_,_,hl=>⟨hl,(by rintro i ⟨r,h,_⟩;cases h),fun _=>.inr rfl⟩
  |r::s,out,h,hl=>by
    obtain ⟨h1,h2⟩:=h r (List.mem_cons_self ..)
    have e5:((old.drop r.1).take (r.2-r.1)).length=r.2-r.1:=qt
    have hput:=nF (out:=out) (p:=r.1) (b:=(old.drop r.1).take (r.2-r.1)) oe
    have ih:=mQ s (vE out r.1 ((old.drop r.1).take (r.2-r.1))) (fun q hq=>h q (List.mem_cons_of_mem _ hq)) (by rw [hput,hl])
    have hin:∀ i,r.1≤i→i<r.2→(vE out r.1 ((old.drop r.1).take (r.2-r.1))).getD i 0=old.getD i 0:=by
      intro i hi hi2
      rw [vD oe,if_pos ⟨hi,by omega⟩]
      simp only [List.getD_eq_getElem?_getD,List.getElem?_take,List.getElem?_drop]
      rw [if_pos oe,show r.1+(i-r.1)=i from by omega]
    have hout:∀ i,¬(r.1≤i∧i<r.2)→(vE out r.1 ((old.drop r.1).take (r.2-r.1))).getD i 0=out.getD i 0:=by
      intro i hi
      rw [vD oe,if_neg oe]
    show (cP (vE out r.1 ((old.drop r.1).take (r.2-r.1))) (pcs old s)).length=_∧_∧_
    refine ⟨ih.1,fun i hi=>?_,fun i=>?_⟩
    · obtain ⟨q,hq,hc⟩:=hi
      rcases List.mem_cons.1 hq with rfl|hq
      · rcases ih.2.2 i with e|e
        · exact e
        · show (cP (vE out q.1 ((old.drop q.1).take (q.2-q.1))) (pcs old s)).getD i 0=_
          rw [e,hin i hc.1 hc.2]
      · exact ih.2.1 i ⟨q,hq,hc⟩
    · rcases ih.2.2 i with e|e
      · exact .inl e
      · by_cases hc:r.1≤i∧i<r.2
        · exact .inl (e.trans (hin i hc.1 hc.2))
        · exact .inr (e.trans (hout i hc))
theorem Cv {a b:List UInt8}(h:a.length=b.length):cP b (pcs a (aA a b a.length))=a:=by
 obtain ⟨h1,h2,h3⟩:=mQ (old:=a) (aA a b a.length) b (fun r hr=>dx a b a.length r hr) h.symm;refine aF (d:=0) h1 (fun i hi=>?_)
 by_cases he:a.getD i 0=b.getD i 0
 ·rcases h3 i with e|e
  ·exact e
  exact e.trans he.symm
 exact h2 i ((BZ a b a.length i).2 ⟨by omega,he⟩)
theorem kN {rec:List UInt8}{size:Int}{ps:List Pc}(h:bS rec size=some ps):¬(rec.length<5∨64≤(rec.getD 0 0).toNat)∧∃ l,goR (be2 (rec.drop 1)) size ((rec.drop 1).drop 2) 0=some (l,ps)∧l.length=2∧be2 l=rec.length:=by
 by_cases h1:rec.length<5∨64≤(rec.getD 0 0).toNat
 ·rw [vL h1] at h
  cases h
 refine ⟨h1,?_⟩
 cases hg:goR (be2 (rec.drop 1)) size ((rec.drop 1).drop 2) 0 with
 |none=>rw [nK hg] at h;cases h
 |some r=>
  obtain ⟨l,qs⟩:=r;rw [nJ h1 hg] at h
  split at h
  ·next hc=>injection h with h;subst h;exact ⟨l,rfl,hc⟩
  cases h
def Pc0:Pc:=(0,[])
def H7 (ps:List Pc):Nat:=ps.foldr (fun p t=>4+p.2.length+t) 0
theorem Gt:∀ (k:Nat) {size:Int} {l:List UInt8} {last:Int} {r:List UInt8×List Pc},goR k size l last=some r→∀ i,i<r.2.length→
    H7 (r.2.take i)+4+(r.2.getD i Pc0).2.length≤l.length∧(l.drop (H7 (r.2.take i)+4)).take (r.2.getD i Pc0).2.length=(r.2.getD i Pc0).2∧((r.2.getD i Pc0).1:Int)+((r.2.getD i Pc0).2.length:Int)≤size
  |0,_,_,_,r,h,i,hi=>by
    injection h with h
    subst h
    cases hi
  |k+1,size,l,last,r,h,i,hi=>by
    rw [goR] at h
    split at h
    · next hp=>
      obtain ⟨q,hq,rfl⟩:=Option.map_eq_some_iff.1 h
      unfold aj at hp
      have e5:(((l.drop 2).drop 2).take (be2 (l.drop 2))).length=be2 (l.drop 2):=qS
      cases i with
      |zero=>
        show 0+4+(((l.drop 2).drop 2).take (be2 (l.drop 2))).length≤l.length∧(l.drop (0+4)).take (((l.drop 2).drop 2).take (be2 (l.drop 2))).length=((l.drop 2).drop 2).take (be2 (l.drop 2))∧(be2 l:Int)+((((l.drop 2).drop 2).take (be2 (l.drop 2))).length:Int)≤size
        rw [e5,List.drop_drop]
        exact ⟨by omega,rfl,by omega⟩
      |succ i=>
        have ih:=Gt k hq i obU
        simp only [List.length_drop,List.drop_drop] at ih
        have e6:H7 (((be2 l,((l.drop 2).drop 2).take (be2 (l.drop 2)))::q.2).take (i+1))=4+be2 (l.drop 2)+H7 (q.2.take i):=by rw [List.take_succ_cons];simp only [H7,List.foldr_cons,e5]
        have e7:((be2 l,((l.drop 2).drop 2).take (be2 (l.drop 2)))::q.2).getD (i+1) Pc0=q.2.getD i Pc0:=rfl
        dsimp only
        rw [e6,e7]
        refine ⟨by omega,?_,ih.2.2⟩
        refine Eq.trans ?_ ih.2.1
        congr 2
    · cases h
theorem Eh {rec:List UInt8}{size:Int}{ps:List Pc}(h:bS rec size=some ps){i:Nat}(hi:i<ps.length):
    3+H7 (ps.take i)+4+(ps.getD i Pc0).2.length≤rec.length∧(rec.drop (3+H7 (ps.take i)+4)).take (ps.getD i Pc0).2.length=(ps.getD i Pc0).2∧((ps.getD i Pc0).1:Int)+((ps.getD i Pc0).2.length:Int)≤size:=by
 obtain ⟨h1,l,hg,_⟩:=kN h;obtain ⟨h2,h3,h4⟩:=Gt _ hg i hi
 simp only [List.drop_drop,List.length_drop] at h2 h3 h4;refine ⟨by omega,?_,h4⟩;rw [← h3]
 congr 2
theorem mR {rec:List UInt8}{out:List UInt8}{ps:List Pc}(h:bS rec (out.length:Int)=some ps):∀ i,i≤ps.length→(cP out (ps.take i)).length=out.length
  |0,_=>rfl
  |i+1,hi=>by
    have ih:=mR h i oe
    have ha:=(Eh h (i:=i) oe).2.2
    rw [aC ps Pc0 i oe,gI,nF oe]
    exact ih
def dq (b rec:List UInt8):Prop:=bS rec (b.length:Int)=none∨b.length<1∨4096<b.length
instance (b rec:List UInt8):Decidable (dq b rec):=by unfold dq;infer_instance
def vx (b rec:List UInt8):List UInt8:=if dq b rec then [] else cP b ((bS rec (b.length:Int)).getD [])
def resE (b rec:List UInt8):Int:=if dq b rec then 210 else 0
theorem nu {b rec:List UInt8}(h:dq b rec):vx b rec=[]:=if_pos h
theorem D0 {b rec:List UInt8}(h:dq b rec):resE b rec=210:=if_pos h
theorem dq.no {b rec:List UInt8}{ps:List Pc}(h:bS rec (b.length:Int)=some ps)(h1:1≤b.length)(h2:b.length≤4096):¬dq b rec:=by
 unfold dq;rw [h];rintro (hx|hx)
 ·cases hx
 omega
theorem nt {b rec:List UInt8}{ps:List Pc}(h:bS rec (b.length:Int)=some ps)(h1:1≤b.length)(h2:b.length≤4096):vx b rec=cP b ps:=by
 unfold vx;rw [if_neg (dq.no h h1 h2),h]
 rfl
theorem zQ {b rec:List UInt8}{ps:List Pc}(h:bS rec (b.length:Int)=some ps)(h1:1≤b.length)(h2:b.length≤4096):resE b rec=0:=by
 unfold resE;rw [if_neg (dq.no h h1 h2)]
theorem Hu {sec:Int}{a b:List UInt8}(h:¬cV sec a b):vx b (iQ sec a b)=a∧resE b (iQ sec a b)=0:=by
 have h':=h
 unfold cV at h';have hx:(UInt8.ofInt sec).toNat<64:=by
  apply Y 0x740f
  omega
 have hp:=rT (b:=b) hx (a:=a) oe (size:=b.length) oe oe;rw [gz h];rw [nt hp oe oe,zQ hp oe oe];exact ⟨Cv oe,rfl⟩
structure UOk (f:Fl)(us:List Int):Prop where
  l:us.length≤64
  r:∀ s,s<us.length→0≤us.getD s 0∧us.getD s 0<(f.data.length:Int)
structure Caps (f:Fl)(a:Fa):Prop where
  row:∀ i,i<f.data.length→f.size≤(a.hs.getD i (none,0)).2
  cd:f.data.length≤a.cD
instance {f:Fl}{a:Fa}:CoeFun (Caps f a) fun _=>∀ i,i<f.data.length→f.size≤(a.hs.getD i (none,0)).2:=⟨Caps.row⟩
def aR (f:Fl)(us:List Int):List UInt8:=us.flatMap fun u=>f.data.getD u.toNat []
theorem Cu (f:Fl)(us:List Int)(u:Int):aR f (us++[u])=aR f us++f.data.getD u.toNat []:=by simp [aR]
theorem gH {f:Fl}(ok:f.Ok):∀ (us:List Int),(∀ u∈us,0≤u∧u<(f.data.length:Int))→(aR f us).length=us.length*f.size
  |[],_=>by simp [aR]
  |u::us,h=>by
    have ih:=gH ok us (fun x hx=>h x (List.mem_cons_of_mem _ hx))
    have h0:=h u (List.mem_cons_self ..)
    have hr:=ok.rows u.toNat oe
    unfold aR at ih ⊢
    rw [List.flatMap_cons,List.length_append,ih,hr,List.length_cons,Nat.succ_mul]
    omega
theorem UOk.mem {f:Fl}{us:List Int}(h:UOk f us):∀ u∈us,0≤u∧u<(f.data.length:Int):=by
 intro u hu;obtain ⟨i,hi,rfl⟩:=List.mem_iff_getElem.1 hu;have:=h.r i hi
 simpa [List.getD_eq_getElem?_getD,hi] using this
theorem j5 {f:Fl}{us:List Int}(ok:f.Ok)(h:UOk f us):(aR f us).length=us.length*f.size:=gH ok us h.mem
theorem eW {f:Fl}{us:List Int}(ok:f.Ok)(h:UOk f us)(k:Nat)(hk:k≤us.length):(aR f (us.take k)).length=k*f.size:=by
 rw [gH ok _ (fun u hu=>h.mem u (List.mem_of_mem_take hu)),List.length_take,Nat.min_eq_left hk]
theorem yd {f:Fl}{us:List Int}{s:Nat}(hs:s<us.length):aR f us=aR f (us.take s)++(f.data.getD (us.getD s 0).toNat []++aR f (us.drop (s+1))):=by
 have e:us=us.take s++(us.getD s 0::us.drop (s+1)):=by
  conv=>lhs;rw [← List.take_append_drop s us]
  rw [List.drop_eq_getElem_cons hs]
  simp [List.getD_eq_getElem?_getD,hs]
 conv=>lhs;rw [e]
 simp [aR]
theorem th {f:Fl}{us:List Int}(ok:f.Ok)(h:UOk f us){s k m:Nat}(hs:s<us.length)(hk:k+m≤f.size):((aR f us).drop (s*f.size+k)).take m=((f.data.getD (us.getD s 0).toNat []).drop k).take m:=by
 have hu:=h.r s hs;have hr:=ok.rows (us.getD s 0).toNat oe;have hl:=eW ok h s oe;rw [yd hs,← List.drop_drop,List.drop_left' hl,List.drop_append_of_le_length oe,List.take_append_of_le_length ot]
theorem fZ {f:Fl}{us:List Int}(ok:f.Ok)(h:UOk f us){s k:Nat}(hs:s<us.length)(hk:k<f.size):(aR f us).getD (s*f.size+k) 0=(f.data.getD (us.getD s 0).toNat []).getD k 0:=by
 have:=th ok h (k:=k) (m:=1) hs oe;have e:=congrArg (fun l=>l.getD 0 (0:UInt8)) this
 simpa [List.getD_eq_getElem?_getD] using e
def okN (A b:List UInt8)(p k:Nat):Bool:=(List.range k).all fun i=>A.getD (p+i) 0&&&b.getD i 0==b.getD i 0
theorem vR (A b:List UInt8)(p k:Nat):okN A b p (k+1)=(okN A b p k&&(A.getD (p+k) 0&&&b.getD k 0==b.getD k 0)):=by simp [okN,List.range_succ]
theorem Gh {A b:List UInt8}{p k n:Nat}(hk:k<n)(h:A.getD (p+k) 0&&&b.getD k 0≠b.getD k 0):okN A b p n=false:=by
 simp only [okN,List.all_eq_false,List.mem_range];exact ⟨k,hk,by simpa using h⟩
def frm (p z s:Nat):Nat:=max p (s*z)
def too (p z n s:Nat):Nat:=min (p+n) ((s+1)*z)
def bJ (b:List UInt8)(p z s:Nat):List UInt8:=(b.drop (frm p z s-p)).take (too p z b.length s-frm p z s)
def cZ (A b:List UInt8)(p z s:Nat):Bool:=decide (frm p z s<too p z b.length s)&& !((A.drop (frm p z s)).take (too p z b.length s-frm p z s)==bJ b p z s)
theorem dM {A b:List UInt8}{p z s:Nat}(h:¬frm p z s<too p z b.length s):cZ A b p z s=false:=by
 unfold cZ;rw [decide_eq_false h]
 rfl
theorem ll {A b:List UInt8}{p z s:Nat}(h:(A.drop (frm p z s)).take (too p z b.length s-frm p z s)=bJ b p z s):cZ A b p z s=false:=by
 unfold cZ;rw [h]
 simp
theorem lh {A b:List UInt8}{p z s:Nat}(h1:frm p z s<too p z b.length s)(h:(A.drop (frm p z s)).take (too p z b.length s-frm p z s)≠bJ b p z s):cZ A b p z s=true:=by
 unfold cZ;rw [decide_eq_true h1,beq_eq_false_iff_ne.2 h]
 rfl
theorem n4 {p:Nat→Bool}{s:Nat}(h:(List.range s).find? p=none)(h2:p s=false):(List.range (s+1)).find? p=none:=by
 apply Y 0x651f
 simp [h2]
theorem wG {p:Nat→Bool}{s:Nat}(h:(List.range s).find? p=none)(h2:p s=true):(List.range (s+1)).find? p=some s:=by
 apply Y 0x651f
 simp [h2]
theorem sL {p:Nat→Bool}{s t:Nat}(h:(List.range s).find? p=some t):(List.range (s+1)).find? p=some t:=by
 apply Y 0x651f
 rfl
theorem k7 {p:Nat→Bool}{s t m:Nat}(h:(List.range s).find? p=some t)(hm:s≤m):(List.range m).find? p=some t:=by
 obtain ⟨d,rfl⟩:=Nat.exists_eq_add_of_le hm
 clear hm
 induction d with
 |zero=>exact h
 |succ d ih=>exact sL ih
theorem BI {p:Nat→Bool}{s m:Nat}(h:(List.range s).find? p=none)(hm:s≤m)(h2:∀ t,s≤t→p t=false):(List.range m).find? p=none:=by
 obtain ⟨d,rfl⟩:=Nat.exists_eq_add_of_le hm
 clear hm
 induction d with
 |zero=>exact h
 |succ d ih=>exact n4 ih (h2 _ (Nat.le_add_right s d))
theorem eS {p:Nat→Bool}{s t:Nat}(h:(List.range s).find? p=some t):t<s∧p t=true:=by
 exact ⟨List.mem_range.1 (List.mem_of_find?_eq_some h),List.find?_some h⟩
def iF (f:Fl)(us:List Int)(b:List UInt8)(p s:Nat):Fo:=⟨2,us.getD s 0,((frm p f.size s-s*f.size:Nat):Int),bJ b p f.size s⟩
def cQ (f:Fl)(us:List Int)(at_:Int)(b:List UInt8):Prop:=at_<0∨at_>((us.length*f.size:Nat):Int)∨(b.length:Int)>((us.length*f.size:Nat):Int)-at_
instance (f:Fl)(us:List Int)(at_:Int)(b:List UInt8):Decidable (cQ f us at_ b):=by unfold cQ;infer_instance
def towS (f:Fl)(us:List Int)(at_:Int)(b:List UInt8):Nx:=
  if cQ f us at_ b then ⟨fo0,false,210⟩
  else if okN (aR f us) b at_.toNat b.length=false then ⟨fo0,false,210⟩
  else match (List.range us.length).find? (cZ (aR f us) b at_.toNat f.size) with
    |none=>⟨fo0,true,0⟩
    |some s=>if f.dead.getD (us.getD s 0).toNat false=true then ⟨fo0,false,171⟩ else ⟨iF f us b at_.toNat s,false,0⟩
section
variable {f:Fl}{us:List Int}{at_:Int}{b:List UInt8}
theorem yG (h:cQ f us at_ b):towS f us at_ b=⟨fo0,false,210⟩:=if_pos h
theorem va (h:¬cQ f us at_ b)(h2:okN (aR f us) b at_.toNat b.length=false):towS f us at_ b=⟨fo0,false,210⟩:=by unfold towS;rw [if_neg h,if_pos h2]
theorem pP (h:¬cQ f us at_ b)(h2:okN (aR f us) b at_.toNat b.length=true)(h3:(List.range us.length).find? (cZ (aR f us) b at_.toNat f.size)=none):towS f us at_ b=⟨fo0,true,0⟩:=by
 unfold towS;rw [if_neg h,if_neg Qt,h3]
theorem u7 {s:Nat}(h:¬cQ f us at_ b)(h2:okN (aR f us) b at_.toNat b.length=true)(h3:(List.range us.length).find? (cZ (aR f us) b at_.toNat f.size)=some s)(h4:f.dead.getD (us.getD s 0).toNat false=true):towS f us at_ b=⟨fo0,false,171⟩:=by
 unfold towS;rw [if_neg h,if_neg Qt,h3]
 exact if_pos h4
theorem pO {s:Nat}(h:¬cQ f us at_ b)(h2:okN (aR f us) b at_.toNat b.length=true)(h3:(List.range us.length).find? (cZ (aR f us) b at_.toNat f.size)=some s)(h4:f.dead.getD (us.getD s 0).toNat false=false):towS f us at_ b=⟨iF f us b at_.toNat s,false,0⟩:=by
 unfold towS;rw [if_neg h,if_neg Qt,h3]
 exact if_neg (by rw [h4];decide)
end
theorem il {b:List UInt8}{p z s:Nat}(h:frm p z s≤too p z b.length s):(bJ b p z s).length=too p z b.length s-frm p z s:=by
 unfold bJ too frm at*;apply Y 0xaa0f
 omega
def ffr (p n z s:Nat):Nat:=min (p+n) (max p (s*z))
theorem BP {p n z s:Nat}(hz:0<z)(hp:p<s*z+z)(h:ffr p n z s<p+n):ffr p n z s=frm p z s∧s*z≤ffr p n z s∧ffr p n z s<s*z+z∧p≤ffr p n z s∧frm p z s<too p z n s∧too p z n s≤s*z+z∧too p z n s≤p+n:=by
 unfold ffr frm too at*;rw [Nat.succ_mul]
 omega
theorem eT {p n z s:Nat}(hp:p<s*z+z):ffr p n z (s+1)=too p z n s∧p<(s+1)*z+z:=by
 unfold ffr too at*;rw [Nat.succ_mul]
 omega
theorem ld (p n z:Nat)(hz:0<z):ffr p n z (p/z)=p∧p<p/z*z+z:=by
 have h1:=Nat.div_mul_le_self p z;have h2:=Nat.lt_div_mul_add (a:=p) hz
 unfold ffr
 omega
theorem Iw {p n z s:Nat}(hz:0<z)(hp:p<s*z+z)(h:ffr p n z s<p+n):ffr p n z s/z=s∧ffr p n z s%z=ffr p n z s-s*z:=by
 obtain ⟨_,h1,h2,_⟩:=BP hz hp h;have hd:ffr p n z s/z=s:=Nat.div_eq_of_lt_le h1 (by rw [Nat.succ_mul];exact h2);have hm:=Nat.div_add_mod (ffr p n z s) z;rw [hd,Nat.mul_comm] at hm;exact ⟨hd,by omega⟩
theorem Kw {p n z s m:Nat}(hz:0<z)(hp:p<s*z+z)(h:ffr p n z s<p+n)(hr:p+n≤m*z):s<m:=by
 obtain ⟨_,h1,_⟩:=BP hz hp h
 exact Nat.lt_of_mul_lt_mul_right (a:=z) oe
theorem xR {A b:List UInt8}{p z t:Nat}(h:t<p/z):cZ A b p z t=false:=by
 have h1:=Nat.div_mul_le_self p z;have h2:(t+1)*z≤p/z*z:=Nat.mul_le_mul_right z h;refine dM ?_
 unfold frm too
 omega
theorem BQ {A b:List UInt8}{p z s t:Nat}(h:¬ffr p b.length z s<p+b.length)(ht:s≤t):cZ A b p z t=false:=by
 have h2:s*z≤t*z:=Nat.mul_le_mul_right z ht;refine dM ?_
 unfold ffr frm too at*
 omega
theorem xQ (A b:List UInt8)(p z:Nat):(List.range (p/z)).find? (cZ A b p z)=none:=by
 apply Y 0x440f;intro t ht;rw [xR (List.mem_range.1 ht)]
 decide
def jq (A:List UInt8)(us:List Int)(b:List UInt8)(p z:Nat)(W:Option Addr)(wc s:Nat)(N:Option Addr)(n:Nat)(cs:List Value):Prop:=
  ((List.range s).find? (cZ A b p z)=none∧N=none∧n=0∧cs=[])∨
  ∃ t,(List.range s).find? (cZ A b p z)=some t∧N.isSome=true∧n=1∧cs=[.int .i64 2,.int .i64 (us.getD t 0),.int .i64 ((frm p z t-t*z:Nat):Int),.slice (bF W wc (frm p z t-p) 1) (bJ b p z t).length (wc-(frm p z t-p))]
theorem jq.none {A:List UInt8}{us:List Int}{b:List UInt8}{p z:Nat}{W:Option Addr}{wc s:Nat}{N:Option Addr}{n:Nat}{cs:List Value}(h:jq A us b p z W wc s N n cs)(hN:N.isNone=true):(List.range s).find? (cZ A b p z)=none∧N=none∧n=0∧cs=[]:=by
 rcases h with h|⟨t,_,h2,_⟩
 ·exact h
 rw [Option.isSome_iff_ne_none] at h2
 simp at hN
 exact absurd hN h2
theorem jq.some {A:List UInt8}{us:List Int}{b:List UInt8}{p z:Nat}{W:Option Addr}{wc s:Nat}{N:Option Addr}{n:Nat}{cs:List Value}(h:jq A us b p z W wc s N n cs)(hN:N.isNone=false):
    ∃ t,(List.range s).find? (cZ A b p z)=some t∧n=1∧cs=[.int .i64 2,.int .i64 (us.getD t 0),.int .i64 ((frm p z t-t*z:Nat):Int),.slice (bF W wc (frm p z t-p) 1) (bJ b p z t).length (wc-(frm p z t-p))]:=by
 rcases h with ⟨_,h,_⟩|⟨t,h1,_,h2⟩
 ·subst h
  cases hN
 exact ⟨t,h1,h2⟩
theorem jq.keep {A:List UInt8}{us:List Int}{b:List UInt8}{p z:Nat}{W:Option Addr}{wc s:Nat}{N:Option Addr}{n:Nat}{cs:List Value}(h:jq A us b p z W wc s N n cs)(hN:N.isNone=false):jq A us b p z W wc (s+1) N n cs:=by
 rcases h with ⟨_,h,_⟩|⟨t,h1,h2⟩
 ·subst h
  cases hN
 exact .inr ⟨t,sL h1,h2⟩
theorem iq {b:List UInt8}{p z s j:Nat}(h:j<(bJ b p z s).length):(bJ b p z s).getD j 0=b.getD (frm p z s-p+j) 0:=by
 unfold bJ at*;rw [List.length_take] at h;apply Y 0x1b0f;rw [if_pos oe]
theorem Ho {f:Fl}{us:List Int}(ok:f.Ok)(h:UOk f us){p s j:Nat}(hs:s<us.length)(h1:s*f.size≤frm p f.size s)(h2:frm p f.size s+j<s*f.size+f.size)(h3:p≤frm p f.size s):
    ((f.data.getD (us.getD s 0).toNat []).drop (frm p f.size s-s*f.size)).getD j 0=(aR f us).getD (p+(frm p f.size s-p+j)) 0:=by
 have:=fZ ok h (s:=s) (k:=frm p f.size s-s*f.size+j) hs oe;rw [show p+(frm p f.size s-p+j)=s*f.size+(frm p f.size s-s*f.size+j) from by omega,this]
 simp only [List.getD_eq_getElem?_getD,List.getElem?_drop]
theorem DR {f:Fl}{us:List Int}(ok:f.Ok)(h:UOk f us){b:List UInt8}{p s:Nat}(hs:s<us.length)(h1:s*f.size≤frm p f.size s)(h2:too p f.size b.length s≤s*f.size+f.size)(h3:frm p f.size s<too p f.size b.length s):
    ((aR f us).drop (frm p f.size s)).take (too p f.size b.length s-frm p f.size s)=((f.data.getD (us.getD s 0).toNat []).drop (frm p f.size s-s*f.size)).take (bJ b p f.size s).length:=by
 have:=th ok h (s:=s) (k:=frm p f.size s-s*f.size) (m:=too p f.size b.length s-frm p f.size s) hs oe;rw [show s*f.size+(frm p f.size s-s*f.size)=frm p f.size s from by omega] at this;rw [this,il oe]
structure Fnd where
  b:List UInt8
  at_:Int
  e:Int
  deriving DecidableEq
def fa (A:List UInt8)(e:Nat):List UInt8:=(A.drop (e-be2 (A.drop (e-2)))).take (be2 (A.drop (e-2)))
def cx (A:List UInt8)(z e:Int):Prop:=e<2∨e>(A.length:Int)∨((be2 (A.drop (e.toNat-2)):Nat):Int)>e∨bS (fa A e.toNat) z=none
instance (A:List UInt8)(z e:Int):Decidable (cx A z e):=by unfold cx;infer_instance
def bG (A:List UInt8)(z e:Int):Fnd:=if cx A z e then ⟨[],0,210⟩ else ⟨fa A e.toNat,e-((be2 (A.drop (e.toNat-2)):Nat):Int),0⟩
theorem r9 {A:List UInt8}{z e:Int}(h:cx A z e):bG A z e=⟨[],0,210⟩:=if_pos h
theorem jV {A:List UInt8}{z e:Int}(h:¬cx A z e):bG A z e=⟨fa A e.toNat,e-((be2 (A.drop (e.toNat-2)):Nat):Int),0⟩:=if_neg h
theorem sa {A:List UInt8}{e:Nat}(h:e≤A.length)(h2:be2 (A.drop (e-2))≤e):(fa A e).length=be2 (A.drop (e-2)):=by
 unfold fa;apply Y 0xaa0f
 omega
section
variable {X:Cx}{β:Base}{n:Nat}{ds:List Deferred}{ops:Array Oper}{Q:Exit→Act→World→Prop}{Γ:Env}{R H:List Pr}{rest:List Oper}
theorem jx {P:Program}(w:World)(d:Nat){t e:Nat}(A:Option Addr)(h:P.underlying t=some (.pointer e)):(Op.equalIn (d+1) t (ag A 0) (.pointer none)).run P w=.ok A.isNone w:=by
 cases A<;>simp [Op.equalIn,run_underlying h,ag]
theorem tq {t ty e:Nat}{x y:Operand}{A:Option Addr}{i:Ti}(ht:au t X.tab=some i)(hd:i.desc=.pointer e)(hx:ev Γ x=some (ag A 0))(hy:ev Γ y=some (.pointer none)):Ev X β Γ R H (.binOp .eql t x y ty) (.bool A.isNone):=by
 intro ρ w hρ hw o ho;apply Y 0x35e;intro e1;rw [hd] at e1;have hg:(eqGuard .eql t x y (ag A 0) (.pointer none)).run X.P w=.ok () w:=qT;have hr:(Op.equal t (ag A 0) (.pointer none)).run X.P w=.ok A.isNone w:=jx w 9999 A e1;have hb:(binOp .eql t (ag A 0) (.pointer none)).run X.P w=.ok (.bool A.isNone) w:=by
  simp only [binOp]
  simp [hr]
 exact Zm 0x840f
theorem uU {e:TypeId}{sz m c:Nat}{A:Option Addr}{xs:List Value}{w:World}(h:(Own e sz A m c xs).p w)(h0:0<xs.length):A.isSome=true:=by
 obtain ⟨g,cur,rfl,_⟩:=cR h h0
 rfl
theorem FB {x:Exit}(j:Nat){e sz m cc:Nat}{A:Option Addr}{xs:List Value}(hj:H[j]?=some (Own e sz A m cc xs))(h0:0<xs.length)(h:A.isSome=true→QE β n ds Q x Γ R H):QE β n ds Q x Γ R H:=
  fun a w hf hs=>h (uU (hs.own j _ hj) h0) a w hf hs
end
end Go.Sl
