/-
  Part of a proof.
-/
import Derived.Test.YtbpddeiogcgegaaGreatUPl
import Derived.Test.YtbpddeiogcgegaaGreatUSlR
set_option maxHeartbeats 0
set_option maxRecDepth 4000
set_option linter.all false
namespace Go.Sl
section
variable {X:Cx}{β:Base}{Γ:Env}{R H:List Pr}
theorem GS {t ty:Nat}{x y:Operand}{yk:IntKind}{a:Int}(hx:ev Γ x=some (.int .i64 a))(hy:ev Γ y=some (.int yk 8))(h0:0≤a)(h1:a≤255):Ev X β Γ R H (.binOp .shl t x y ty) (.int .i64 (a*256)):=by
 intro ρ w hρ hw o ho;have hg:(eqGuard .shl t x y (.int .i64 a) (.int yk 8)).run X.P w=.ok () w:=qO;have hw1:IntKind.i64.wrap (a*256)=a*256:=iP oe oe
 simp [execOp,ho,hρ _ _ hx,hρ _ _ hy,hg,binOp_shl,Op.shift,IntKind.bits,hw1]
theorem CZ (a b:UInt8):bop .or .i64 ((a.toNat:Int)*256) (b.toNat:Int)=(a.toNat:Int)*256+(b.toNat:Int):=by
 have ha:=mR a;have hb:=mR b;have e1:(a.toNat:Int)*256=((a.toNat*256:Nat):Int):=oe
 show IntKind.i64.wrap ((BitVec.ofInt 64 ((a.toNat:Int)*256)|||BitVec.ofInt 64 (b.toNat:Int)).toNat:Int)=_;rw [e1,BitVec.ofInt_natCast,BitVec.ofInt_natCast,BitVec.toNat_or,BitVec.toNat_ofNat,BitVec.toNat_ofNat,Nat.mod_eq_of_lt oe,Nat.mod_eq_of_lt oe];have e2:a.toNat*256|||b.toNat=a.toNat*256+b.toNat:=by
  have:=Nat.shiftLeft_add_eq_or_of_lt (a:=a.toNat) (b:=b.toNat) (i:=8) oe;rw [Nat.shiftLeft_eq,show (2:Nat)^8=256 from rfl] at this
  exact this.symm
 rw [e2,iP oe oe];exact Zm 0x18
theorem GT {t ty:Nat}{x y:Operand}{a b:UInt8}(hx:ev Γ x=some (.int .i64 ((a.toNat:Int)*256)))(hy:ev Γ y=some (.int .i64 (b.toNat:Int))):Ev X β Γ R H (.binOp .or t x y ty) (.int .i64 ((a.toNat:Int)*256+(b.toNat:Int))):=
  (Ev.pure (v:=.int .i64 (bop .or .i64 ((a.toNat:Int)*256) (b.toNat:Int))) qY).cast (by rw [CZ])
end
def be2 (l:List UInt8):Nat:=(l.getD 0 0).toNat*256+(l.getD 1 0).toNat
theorem jV (l:List UInt8):be2 l<65536:=by
 apply Y 0x482f;intro h0;have h1:=mR (l.getD 1 0)
 unfold be2;exact Zm 0x18
theorem Gz (l:List UInt8):((l.getD 0 0).toNat:Int)*256+((l.getD 1 0).toNat:Int)=(be2 l:Int):=by unfold be2;omega
theorem aQ {R H:List Pr}{A:Option Addr}{l:List UInt8}(h:Has R H (Rd A (U8 l)))(c k:Nat)(hc:l.length≤c):Has R H (Rd (bh A c k 1) (U8 (l.drop k))):=by
 have h2:=h.sub c k 1 l.length oG
 rwa [Nat.mul_one,gQ,List.take_of_length_le Qb] at h2
def ai (l:List UInt8)(last:Int)(size:Int):Prop:=4≤l.length∧last≤(be2 l:Int)∧1≤be2 (l.drop 2)∧(be2 l:Int)+(be2 (l.drop 2):Int)≤size∧be2 (l.drop 2)≤l.length-4
instance (l:List UInt8)(last size:Int):Decidable (ai l last size):=by unfold ai;infer_instance
def pZ (out:List UInt8)(p:Nat)(b:List UInt8):List UInt8:=out.take p++b++out.drop (p+b.length)
theorem gd {out b:List UInt8}{p:Nat}(h:p+b.length≤out.length):(pZ out p b).length=out.length:=by
 unfold pZ
 simp only [List.length_append,List.length_take,List.length_drop];exact Zm 0x18
theorem Rw (out b:List UInt8)(p:Nat):(U8 out).take p++U8 b++(U8 out).drop (p+(U8 b).length)=U8 (pZ out p b):=by
 unfold pZ;rw [aJ]
 simp [U8,List.map_take,List.map_drop]
theorem EN {g c l:Nat}(h:l<c):bh (some ⟨g,0,none⟩) c l 1=some ⟨g,l,none⟩:=by
 unfold bh;rw [if_neg oe,Nat.mul_one]
 unfold Addr.add
 by_cases h0:l=0
 ·subst h0;exact Zm 0x51e
 simp [h0]
abbrev Pc:=Nat×List UInt8
def goR:Nat→Int→List UInt8→Int→Option (List UInt8×List Pc)
  |0,_,l,_=>some (l,[])
  |k+1,size,l,last=>if ai l last size then (goR k size (((l.drop 2).drop 2).drop (be2 (l.drop 2))) ((be2 l:Int)+(be2 (l.drop 2):Int))).map (fun r=>(r.1,(be2 l,((l.drop 2).drop 2).take (be2 (l.drop 2)))::r.2)) else none
def aT (rec:List UInt8)(size:Int):Option (List Pc):=
  if rec.length<5∨64≤(rec.getD 0 0).toNat then none
  else match goR (be2 (rec.drop 1)) size ((rec.drop 1).drop 2) 0 with
    |none=>none
    |some r=>if r.1.length=2∧be2 r.1=rec.length then some r.2 else none
def cR (out:List UInt8)(ps:List Pc):List UInt8:=ps.foldl (fun o p=>pZ o p.1 p.2) out
theorem ew (out:List UInt8)(ps:List Pc)(p:Pc):cR out (ps++[p])=pZ (cR out ps) p.1 p.2:=by simp [cR]
def fV (n:Nat)(size:Int)(l0:List UInt8)(k:Nat)(l:List UInt8)(last:Int)(ps:List Pc):Prop:=goR n size l0 0=(goR k size l last).map fun r=>(r.1,ps++r.2)
theorem fV.start (n:Nat)(size:Int)(l0:List UInt8):fV n size l0 n l0 0 []:=by
 unfold fV
 cases goR n size l0 0<;>simp
theorem fV.next {n:Nat}{size:Int}{l0:List UInt8}{k:Nat}{l:List UInt8}{last:Int}{ps:List Pc}(h:fV n size l0 (k+1) l last ps)(hp:ai l last size):
    fV n size l0 k (((l.drop 2).drop 2).drop (be2 (l.drop 2))) ((be2 l:Int)+(be2 (l.drop 2):Int)) (ps++[(be2 l,((l.drop 2).drop 2).take (be2 (l.drop 2)))]):=by
 unfold fV at h ⊢;rw [h,goR,if_pos hp,Option.map_map]
 congr 1
 funext r;exact Zm 0x51e
theorem fV.bad {n:Nat}{size:Int}{l0:List UInt8}{k:Nat}{l:List UInt8}{last:Int}{ps:List Pc}(h:fV n size l0 (k+1) l last ps)(hp:¬ai l last size):goR n size l0 0=none:=by
 unfold fV at h;rw [h,goR,if_neg hp];exact Zm 0x2
theorem fV.done {n:Nat}{size:Int}{l0 l:List UInt8}{last:Int}{ps:List Pc}(h:fV n size l0 0 l last ps):goR n size l0 0=some (l,ps):=by
 unfold fV at h;rw [h,goR];exact Zm 0x51e
theorem iD {rec:List UInt8}{size:Int}(h:rec.length<5∨64≤(rec.getD 0 0).toNat):aT rec size=none:=if_pos h
theorem iC {rec:List UInt8}{size:Int}(h2:goR (be2 (rec.drop 1)) size ((rec.drop 1).drop 2) 0=none):aT rec size=none:=by
 unfold aT
 split
 ·exact Zm 0x2
 rw [h2]
theorem lN {rec l:List UInt8}{size:Int}{ps:List Pc}(h:¬(rec.length<5∨64≤(rec.getD 0 0).toNat))(h2:goR (be2 (rec.drop 1)) size ((rec.drop 1).drop 2) 0=some (l,ps)):aT rec size=if l.length=2∧be2 l=rec.length then some ps else none:=by
 unfold aT;rw [if_neg h,h2]
theorem Eh {l rec:List UInt8}{ps:List Pc}{E:Option (List Pc)}(hE:E=if l.length=2∧be2 l=rec.length then some ps else none)(h40:2≤l.length)(h44:(be2 l:Int)=(rec.length:Int)):(((l.drop 2).length:Int)==0)=E.isSome:=by
 subst hE;rw [List.length_drop]
 by_cases h:l.length=2
 ·rw [if_pos ⟨h,by omega⟩,h];exact Zm 0x2
 apply Y 0xd30f;have:¬ (((l.length-2:Nat):Int)=0):=oe
 simpa using this
theorem I0 {l rec out:List UInt8}{ps:List Pc}{E:Option (List Pc)}(hE:E=if l.length=2∧be2 l=rec.length then some ps else none):∀ qs,E=some qs→cR out ps=cR out qs:=by
 subst hE;intro qs h
 split at h
 ·injection h with h
  rw [h]
 cases h
section
variable {X:Cx}{β:Base}{n:Nat}{ds:List Deferred}{ops:Array Oper}{Q:Exit→Act→World→Prop}{Γ:Env}{R H:List Pr}{rest:List Oper}
theorem z7 {d t e ty:Nat}{pos:String}{af:Array Edge}{i ei:Ti}(ht:au t X.tab=some i)(hdesc:i.desc=.slice e)(he:au e X.tab=some ei)(hd:Nat.blt d n=true)
    (k:∀ A,L X β n ds ops Q rest ((d,.slice A 0 0)::Γ) R (H++[Own e ei.size A 0 0 []])):L X β n ds ops Q (⟨some d,.buildSlice t 0 #[],ty,pos,af,none⟩::rest) Γ R H:=by
 refine L.mk hd e ei.size 0 [] Qa oO (fun A=>.slice A 0 0) ?_ k;intro ρ w hρ hs o ho;obtain ⟨e1,_⟩:=X.ok _ _ ht;rw [hdesc] at e1;apply Y 0xe8e;intro hS;exact Zm 0xf11f304f
end
theorem rangesV_at:∀ (l:List (Nat×Nat)) (k:Nat),k<l.length→((a6 l).drop (k*2)).take 2=[.int .i64 ((l.getD k (0,0)).1:Int),.int .i64 ((l.getD k (0,0)).2:Int)]
  |[],_,h=>absurd h (Nat.not_lt_zero _)
  |_::_,0,_=>rfl
  |_::l,k+1,h=>by
    rw [show (k+1)*2=k*2+2 from by omega]
    exact rangesV_at l k qP
theorem bG (l:List (Nat×Nat))(k q:Nat)(hk:k<l.length)(hq:q<2):(a6 l)[k*2+q]?=[Value.int .i64 ((l.getD k (0,0)).1:Int),.int .i64 ((l.getD k (0,0)).2:Int)][q]?:=by
 have h:=rangesV_at l k hk;rw [← h,List.getElem?_take,if_pos hq,List.getElem?_drop]
theorem gT:∀ (l:List (Nat×Nat)) (k y:Nat),k<l.length→(a6 l).set (k*2+1) (.int .i64 (y:Int))=a6 (l.set k ((l.getD k (0,0)).1,y))
  |[],_,_,h=>absurd h (Nat.not_lt_zero _)
  |_::_,0,_,_=>rfl
  |r::l,k+1,y,h=>by
    have ih:=gT l k y qP
    rw [show (k+1)*2+1=(k*2+1)+1+1 from by omega]
    show [Value.int .i64 (r.1:Int),.int .i64 (r.2:Int)]++(a6 l).set (k*2+1) (.int .i64 (y:Int))=_
    rw [ih]
    rfl
theorem bA {l:List (Nat×Nat)}{k:Nat}(hk:k<l.length):0<(a6 l).length:=by rw [pY];omega
theorem wx {s:List (Nat×Nat)}{i:Nat}(h0:0<s.length)(h:(s.getD (s.length-1) (0,0)).2=i):fZ s i=s.set (s.length-1) ((s.getD (s.length-1) (0,0)).1,i+1):=by
 obtain ⟨t,r,rfl⟩:∃ t r,s=t++[r]:=⟨s.dropLast,s.getLast (by intro e;subst e;cases h0),(List.dropLast_concat_getLast _).symm⟩
 simp only [List.length_append,List.length_cons,List.length_nil,Nat.zero_add,Nat.add_sub_cancel] at h ⊢;have hg:(t++[r]).getD t.length (0,0)=r:=oO;rw [hg] at h ⊢;obtain ⟨p,q⟩:=r
 simp only at h;subst h;rw [gE,List.set_append_right _ _ (Nat.le_refl _),Nat.sub_self];exact Zm 0x2
theorem mX {s:List (Nat×Nat)}{i:Nat}(h:s.length=0∨(s.getD (s.length-1) (0,0)).2≠i):fZ s i=s++[(i,i+1)]:=by
 rcases h with h|h
 ·obtain rfl:=List.eq_nil_of_length_eq_zero h;exact Zm 0x2
 unfold fZ
 split
 ·next r hr=>
  rw [if_neg];intro e;obtain ⟨t,rfl⟩:=List.getLast?_eq_some_iff.1 hr
  simp at h
  exact h e
 exact Zm 0x2
theorem fG (s:List (Nat×Nat))(i:Nat):fZ s i=s++[(i,i+1)]∨∃ t p,s=t++[(p,i)]∧fZ s i=t++[(p,i+1)]:=by
 rcases List.eq_nil_or_concat s with rfl|⟨t,⟨p,q⟩,rfl⟩
 ·exact .inl rfl
 by_cases h:q=i
 ·subst h
  exact .inr ⟨t,p,by simp,by rw [List.concat_eq_append,gE]⟩
 refine .inl (mX (.inr ?_))
 simpa using h
theorem gu (a b:List UInt8):∀ k,∀ r∈aF a b k,r.1<r.2∧r.2≤k
  |0,r,h=>by cases h
  |k+1,r,h=>by
    have ih:=gu a b k
    rw [aF] at h
    split at h
    · have:=ih r h;omega
    · rcases fG (aF a b k) k with e|⟨t,p,e1,e2⟩
      · rw [e] at h
        rcases List.mem_append.1 h with h|h
        · have:=ih r h;omega
        · simp at h;subst h;simp
      · rw [e2] at h
        rcases List.mem_append.1 h with h|h
        · have:=ih r (by rw [e1];exact List.mem_append_left _ h);omega
        · simp at h
          subst h
          have:=ih (p,k) obS
          simp only at this ⊢
          omega
theorem eY {a b:List UInt8}{k i:Nat}(h:i<(aF a b k).length):((aF a b k).getD i (0,0)).1<((aF a b k).getD i (0,0)).2∧((aF a b k).getD i (0,0)).2≤k:=
  gu a b k _ (by rw [List.getD_eq_getElem?_getD,List.getElem?_eq_getElem h];exact List.getElem_mem h)
theorem eX (a b:List UInt8):∀ k,(aF a b k).length≤k
  |0=>Nat.le_refl _
  |k+1=>by
    rw [aF]
    have:=eX a b k
    split
    · omega
    · rcases fG (aF a b k) k with e|⟨t,p,e1,e2⟩
      · rw [e];simp;omega
      · rw [e2];rw [e1] at this;simp at this ⊢;omega
def rR (a b:List UInt8):Nat→Nat
  |0=>0
  |k+1=>if a.getD k 0=b.getD k 0 then rR a b k else rR a b k+1
def tot (s:List (Nat×Nat)):Nat:=s.foldr (fun r t=>(r.2-r.1)+t) 0
theorem ld (s t:List (Nat×Nat)):tot (s++t)=tot s+tot t:=by
 induction s with
 |nil=>simp [tot]
 |cons r s ih=>simp only [tot,List.cons_append,List.foldr_cons] at ih ⊢;omega
theorem pP (a b:List UInt8):∀ k,tot (aF a b k)=rR a b k
  |0=>rfl
  |k+1=>by
    have ih:=pP a b k
    have hm:=gu a b k
    rw [aF,rR]
    split
    · exact ih
    · rcases fG (aF a b k) k with e|⟨t,p,e1,e2⟩
      · rw [e,ld,ih]
        simp [tot]
      · have h3:=hm (p,k) obS
        rw [e2,ld]
        rw [e1,ld] at ih
        simp only [tot,List.foldr_cons,List.foldr_nil] at ih ⊢
        simp only at h3
        omega
theorem me (a b:List UInt8):∀ k,rR a b k≤k
  |0=>Nat.le_refl _
  |k+1=>by
    have:=me a b k
    rw [rR]
    split<;>omega
def tw (n:Nat):List UInt8:=[UInt8.ofNat (n/256),UInt8.ofNat n]
theorem gg (n:Nat):UInt8.ofInt (n:Int)=UInt8.ofNat n:=by
 apply UInt8.toNat.inj;exact Zm 0x183e1f
theorem Lh (n:Nat):UInt8.ofInt ((n:Int).fdiv (2^8))=UInt8.ofNat (n/256):=by
 rw [Int.fdiv_eq_ediv_of_nonneg _ ob,show ((2:Int)^8)=((256:Nat):Int) from rfl,← Int.natCast_ediv,gg]
theorem G8 (n:Nat):UInt8.ofInt ((n:Int)/256)=UInt8.ofNat (n/256):=by
 rw [show ((256:Int))=((256:Nat):Int) from rfl,← Int.natCast_ediv,gg]
theorem G7 (n:Nat):UInt8.ofInt ((n:Int)%256)=UInt8.ofNat n:=by
 rw [show ((256:Int))=((256:Nat):Int) from rfl,← Int.natCast_emod,gg]
 apply UInt8.toNat.inj
 simp [UInt8.toNat_ofNat']
def rgB (old:List UInt8)(r:Nat×Nat):List UInt8:=tw r.1++tw (r.2-r.1)++(old.drop r.1).take (r.2-r.1)
theorem Fc {old:List UInt8}{r:Nat×Nat}(h:r.2≤old.length):(rgB old r).length=4+(r.2-r.1):=by
 simp [rgB,tw];exact Zm 0x18
def iz (x:UInt8)(old:List UInt8)(s:List (Nat×Nat))(k:Nat):List UInt8:=x::(tw s.length++(s.take k).flatMap (rgB old))
theorem np {x:UInt8}{old:List UInt8}{s:List (Nat×Nat)}{k:Nat}(h:k<s.length):
    iz x old s k++tw (s.getD k (0,0)).1++tw ((s.getD k (0,0)).2-(s.getD k (0,0)).1)++(old.drop (s.getD k (0,0)).1).take ((s.getD k (0,0)).2-(s.getD k (0,0)).1)=iz x old s (k+1):=by
 unfold iz;rw [aA s (0,0) k h,List.flatMap_append]
 simp [rgB]
theorem l8 {old:List UInt8}:∀ (s:List (Nat×Nat)),(∀ r∈s,r.2≤old.length)→(s.flatMap (rgB old)).length=4*s.length+tot s
  |[],_=>rfl
  |r::s,h=>by
    have ih:=l8 s (fun q hq=>h q (List.mem_cons_of_mem _ hq))
    rw [List.flatMap_cons,List.length_append,ih,Fc (h r (List.mem_cons_self ..))]
    simp only [List.length_cons,tot,List.foldr_cons]
    omega
theorem pO (s:List (Nat×Nat))(k:Nat):tot (s.take k)≤tot s:=by
 have:=ld (s.take k) (s.drop k);rw [List.take_append_drop] at this;exact Zm 0x18
theorem s5 {x:UInt8}{a b:List UInt8}(k:Nat):(iz x a (aF a b a.length) k).length≤3+5*a.length:=by
 have h1:=l8 (old:=a) ((aF a b a.length).take k) (fun r hr=>(gu a b a.length r (List.mem_of_mem_take hr)).2);have h2:=pO (aF a b a.length) k;have h3:=pP a b a.length;have h4:=me a b a.length;apply Y 0xe90f;intro h5;have h6:((aF a b a.length).take k).length≤(aF a b a.length).length:=oN
 unfold iz
 simp only [List.length_cons,List.length_append,h1,tw,List.length_nil];exact Zm 0x18
def DR (x:UInt8)(old:List UInt8)(s:List (Nat×Nat)):List UInt8:=iz x old s s.length++tw ((iz x old s s.length).length+2)
def dH (sec:Int)(old new:List UInt8):Prop:=sec<0∨64≤sec∨old.length≠new.length∨old.length<1∨4096<old.length
instance (sec:Int)(old new:List UInt8):Decidable (dH sec old new):=by unfold dH;infer_instance
def gI (sec:Int)(old new:List UInt8):List UInt8:=if dH sec old new then [] else DR (UInt8.ofInt sec) old (aF old new old.length)
def GY (sec:Int)(old new:List UInt8):Int:=if dH sec old new then 210 else 0
theorem lF {sec:Int}{old new:List UInt8}(h:dH sec old new):gI sec old new=[]:=if_pos h
theorem BM {sec:Int}{old new:List UInt8}(h:dH sec old new):GY sec old new=210:=if_pos h
theorem ji {sec:Int}{old new:List UInt8}(h:¬dH sec old new):gI sec old new=DR (UInt8.ofInt sec) old (aF old new old.length):=if_neg h
theorem pX {sec:Int}{old new:List UInt8}(h:¬dH sec old new):GY sec old new=0:=if_neg h
theorem BN {x:UInt8}{a b:List UInt8}:(DR x a (aF a b a.length)).length=5+4*(aF a b a.length).length+rR a b a.length:=by
 have h1:=l8 (old:=a) (aF a b a.length) (fun r hr=>(gu a b a.length r hr).2)
 unfold DR iz;apply Y 0x36e
 simp only [List.length_cons,List.length_append,h1,tw,List.length_nil,pP];exact Zm 0x18
theorem lE (sec:Int)(old new:List UInt8):(gI sec old new).length≤20485:=by
 by_cases h:dH sec old new
 ·rw [lF h];exact Zm 0x51e
 rw [ji h,BN];have h4:=me old new old.length;have h5:=eX old new old.length
 unfold dH at h;exact Zm 0x18
theorem lJ {out b:List UInt8}{p i:Nat}(h:p+b.length≤out.length)(d:UInt8):(pZ out p b).getD i d=if p≤i∧i<p+b.length then b.getD (i-p) d else out.getD i d:=by
 unfold pZ
 simp only [List.getD_eq_getElem?_getD,List.append_assoc]
 by_cases h1:i<p
 ·rw [List.getElem?_append_left oN,List.getElem?_take,if_pos h1,if_neg oe]
 rw [List.getElem?_append_right oN,List.length_take,show min p out.length=p from by omega]
 by_cases h2:i<p+b.length
 ·rw [List.getElem?_append_left oe,if_pos ⟨by omega,h2⟩]
 rw [List.getElem?_append_right oe,List.getElem?_drop,if_neg oe,show p+b.length+(i-p-b.length)=i from by omega]
def cU (l:List UInt8)(at_:Nat):Int:=if at_+2≤l.length then (be2 (l.drop at_):Int) else -1
theorem Cf (l:List UInt8)(at_:Nat):256*((l.getD at_ 0).toNat:Int)+((l.getD (at_+1) 0).toNat:Int)=(be2 (l.drop at_):Int):=by
 unfold be2
 simp only [List.getD_eq_getElem?_getD,List.getElem?_drop,Nat.add_zero];exact Zm 0x18
theorem tA (l:List UInt8)(at_:Nat): -1≤cU l at_∧cU l at_<65536:=by
 have:=jV (l.drop at_)
 unfold cU
 split<;>omega
theorem dB {l:List UInt8}{at_:Nat}(h:at_+2≤l.length):cU l at_=(be2 (l.drop at_):Int):=if_pos h
theorem l5:∀ (k:Nat) {size:Int} {l:List UInt8} {last:Int} {r:List UInt8×List Pc},goR k size l last=some r→∃ m,r.1=l.drop m
  |0,_,l,_,r,h=>by
    injection h with h
    subst h
    exact ⟨0,rfl⟩
  |k+1,size,l,last,r,h=>by
    rw [goR] at h
    split at h
    · obtain ⟨q,hq,rfl⟩:=Option.map_eq_some_iff.1 h
      obtain ⟨m,hm⟩:=l5 k hq
      refine ⟨2+2+be2 (l.drop 2)+m,?_⟩
      rw [hm,List.drop_drop,List.drop_drop,List.drop_drop]
      congr 1
      omega
    · cases h
theorem df {rec:List UInt8}{size:Int}{ps:List Pc}(h:aT rec size=some ps):¬(rec.length<5∨64≤(rec.getD 0 0).toNat)∧∃ l,goR (be2 (rec.drop 1)) size ((rec.drop 1).drop 2) 0=some (l,ps)∧l.length=2∧be2 l=rec.length:=by
 by_cases h1:rec.length<5∨64≤(rec.getD 0 0).toNat
 ·rw [iD h1] at h
  cases h
 refine ⟨h1,?_⟩
 cases hg:goR (be2 (rec.drop 1)) size ((rec.drop 1).drop 2) 0 with
 |none=>rw [iC hg] at h;cases h
 |some r=>
  obtain ⟨l,qs⟩:=r;rw [lN h1 hg] at h
  split at h
  ·next hc=>injection h with h;subst h;exact ⟨l,rfl,hc⟩
  cases h
theorem vb {b:List UInt8}{n:Int}(h5:5≤b.length)(h:cU b (b.length-2)≠(b.length:Int)):aT b n=none:=by
 cases hp:aT b n with
 |none=>rfl
 |some ps=>
  obtain ⟨_,l,hg,hl,hb⟩:=df hp;obtain ⟨m,hm⟩:=l5 _ hg
  simp only at hm;rw [List.drop_drop,List.drop_drop] at hm;have h2:l.length=b.length-(1+2+m):=by rw [hm,List.length_drop];congr 1;omega
  have h3:l=b.drop (b.length-2):=by rw [hm];congr 1;omega
  rw [dB oe,← h3,hb] at h
  exact absurd rfl h
theorem HY {b:List UInt8}{n:Int}{at_ last:Nat}(hat:at_+2≤b.length)(h1:¬cU b at_<(last:Int))(h2:¬cU b (at_+2)<1)(h3:¬cU b at_+cU b (at_+2)>n)(h4:¬(at_:Int)+4+cU b (at_+2)>(b.length:Int)-2):
    cU b at_=(be2 (b.drop at_):Int)∧cU b (at_+2)=(be2 ((b.drop at_).drop 2):Int)∧ai (b.drop at_) (last:Int) n∧at_+4+be2 ((b.drop at_).drop 2)+2≤b.length:=by
 have e1:=dB hat;have hat2:at_+2+2≤b.length:=by
  rcases Nat.lt_or_ge b.length (at_+2+2) with h|h
  ·unfold cU at h2;rw [if_neg oe] at h2;exact Zm 0x18
  exact Zm 0xc2e
 have e2:=dB hat2;rw [show b.drop (at_+2)=(b.drop at_).drop 2 from by rw [List.drop_drop]] at e2;rw [e2] at h2 h3 h4;rw [e1] at h1 h3;refine ⟨e1,e2,?_,by omega⟩
 unfold ai;rw [List.length_drop];exact Zm 0x18
theorem s3 {b:List UInt8}{n:Int}{m at_ last k:Nat}{ps:List Pc}(hm:m=be2 (b.drop 1))(hat:at_+2≤b.length)(hh:fV m n ((b.drop 1).drop 2) (k+1) (b.drop at_) (last:Int) ps)
    (h:cU b at_<(last:Int)∨cU b (at_+2)<1∨cU b at_+cU b (at_+2)>n∨(at_:Int)+4+cU b (at_+2)>(b.length:Int)-2):aT b n=none:=by
 subst hm
 by_cases hp:ai (b.drop at_) (last:Int) n
 ·have hn:=hh.next hp
  cases hq:aT b n with
  |none=>rfl
  |some qs=>
   obtain ⟨_,l,hg,hl,_⟩:=df hq
   unfold fV at hn;rw [hg] at hn;obtain ⟨r,hr,hr2⟩:=Option.map_eq_some_iff.1 hn.symm;obtain ⟨j,hj⟩:=l5 _ hr;have e3:l=r.1:=congrArg Prod.fst hr2.symm;rw [hj] at e3;have e4:=congrArg List.length e3
   simp only [List.length_drop] at e4
   unfold ai at hp;rw [List.length_drop] at hp;have e1:=dB hat;have e2:=dB (l:=b) (at_:=at_+2) oe;rw [show b.drop (at_+2)=(b.drop at_).drop 2 from by rw [List.drop_drop]] at e2;rw [e1,e2] at h;exact Zm 0x18
 exact iC (hh.bad hp)
def prg (p:Pc):Nat×Nat:=(p.1,p.1+p.2.length)
theorem Ff {b:List UInt8}{n:Int}{m at_:Nat}{last:Int}{ps:List Pc}(hm:m=be2 (b.drop 1))(h5:¬(b.length<5∨64≤(b.getD 0 0).toNat))(hat:at_+2≤b.length)(hn:cU b (b.length-2)=(b.length:Int))(hh:fV m n ((b.drop 1).drop 2) 0 (b.drop at_) last ps):
    ((at_:Int)==(b.length:Int)-2)=(aT b n).isSome∧∀ qs,aT b n=some qs→ps=qs:=by
 subst hm;have e:=lN h5 hh.done;rw [e,List.length_drop]
 by_cases h:at_=b.length-2
 ·subst h;rw [dB oe] at hn;rw [if_pos ⟨by omega,by omega⟩];refine ⟨?_,fun qs hq=>by injection hq⟩;rw [show ((b.length-2:Nat):Int)=(b.length:Int)-2 from by omega];exact Zm 0x51e
 apply Y 0xd30f;refine ⟨?_,fun qs hq=>by cases hq⟩;have:¬((at_:Int)=(b.length:Int)-2):=oe
 simpa using this
theorem BJ {m:Nat}{n:Int}{l0 b:List UInt8}{k at_:Nat}{last:Int}{ps:List Pc}(hh:fV m n l0 (k+1) (b.drop at_) last ps)(hp:ai (b.drop at_) last n):
    fV m n l0 k (b.drop (at_+(4+be2 ((b.drop at_).drop 2)))) ((be2 (b.drop at_)+be2 ((b.drop at_).drop 2):Nat):Int) (ps++[(be2 (b.drop at_),(((b.drop at_).drop 2).drop 2).take (be2 ((b.drop at_).drop 2)))]):=by
 have h:=hh.next hp;have e:∀ x,b.drop (at_+(4+x))=(((b.drop at_).drop 2).drop 2).drop x:=fun x=>by
  rw [List.drop_drop,List.drop_drop,List.drop_drop]
  congr 1;exact Zm 0x18
 rw [e];exact Zm 0xc2e
theorem E8 {b:List UInt8}{at_:Nat}{ps:List Pc}{u v:Int}(e1:u=(be2 (b.drop at_):Int))(e2:v=(be2 ((b.drop at_).drop 2):Int))(h:at_+4+be2 ((b.drop at_).drop 2)+2≤b.length):
    a6 (ps.map prg)++[.int .i64 u,.int .i64 (u+v)]=a6 ((ps++[(be2 (b.drop at_),(((b.drop at_).drop 2).drop 2).take (be2 ((b.drop at_).drop 2)))]).map prg):=by
 have e5:((((b.drop at_).drop 2).drop 2).take (be2 ((b.drop at_).drop 2))).length=be2 ((b.drop at_).drop 2):=by rw [List.length_take,List.length_drop,List.length_drop,List.length_drop];omega
 rw [List.map_append,List.map_singleton,← eM,e1,e2]
 unfold prg
 simp only [e5];exact Zm 0x2
def Pc0:Pc:=(0,[])
theorem xq {ps:List Pc}{i:Nat}(h:i<ps.length):(ps.map prg).getD i (0,0)=((ps.getD i Pc0).1,(ps.getD i Pc0).1+(ps.getD i Pc0).2.length):=by
 simp [List.getD_eq_getElem?_getD,h,prg]
theorem Fb {ps:List Pc}{i:Nat}(h:i<ps.length):(a6 (ps.map prg))[i*2]?=some (.int .i64 ((ps.getD i Pc0).1:Int)):=by
 have:=bG (ps.map prg) i 0 oaN ob;rw [xq h] at this
 exact this
theorem E9 {ps:List Pc}{i:Nat}(h:i<ps.length):(a6 (ps.map prg))[i*2+1]?=some (.int .i64 (((ps.getD i Pc0).1+(ps.getD i Pc0).2.length:Nat):Int)):=by
 have:=bG (ps.map prg) i 1 oaN ob;rw [xq h] at this
 exact this
def pJ (ps:List Pc):Nat:=ps.foldr (fun p t=>4+p.2.length+t) 0
theorem yB (ps:List Pc)(p:Pc):pJ (ps++[p])=pJ ps+(4+p.2.length):=by
 induction ps with
 |nil=>simp [pJ]
 |cons q ps ih=>simp only [pJ,List.cons_append,List.foldr_cons] at ih ⊢;omega
theorem Ed:∀ (k:Nat) {size:Int} {l:List UInt8} {last:Int} {r:List UInt8×List Pc},goR k size l last=some r→∀ i,i<r.2.length→
    pJ (r.2.take i)+4+(r.2.getD i Pc0).2.length≤l.length∧(l.drop (pJ (r.2.take i)+4)).take (r.2.getD i Pc0).2.length=(r.2.getD i Pc0).2∧((r.2.getD i Pc0).1:Int)+((r.2.getD i Pc0).2.length:Int)≤size
  |0,_,_,_,r,h,i,hi=>by
    injection h with h
    subst h
    cases hi
  |k+1,size,l,last,r,h,i,hi=>by
    rw [goR] at h
    split at h
    · next hp=>
      obtain ⟨q,hq,rfl⟩:=Option.map_eq_some_iff.1 h
      unfold ai at hp
      have e5:(((l.drop 2).drop 2).take (be2 (l.drop 2))).length=be2 (l.drop 2):=qZ
      cases i with
      |zero=>
        show 0+4+(((l.drop 2).drop 2).take (be2 (l.drop 2))).length≤l.length∧(l.drop (0+4)).take (((l.drop 2).drop 2).take (be2 (l.drop 2))).length=((l.drop 2).drop 2).take (be2 (l.drop 2))∧(be2 l:Int)+((((l.drop 2).drop 2).take (be2 (l.drop 2))).length:Int)≤size
        rw [e5,List.drop_drop]
        exact ⟨by omega,rfl,by omega⟩
      |succ i=>
        have ih:=Ed k hq i (by simpa using hi)
        simp only [List.length_drop,List.drop_drop] at ih
        have e6:pJ (((be2 l,((l.drop 2).drop 2).take (be2 (l.drop 2)))::q.2).take (i+1))=4+be2 (l.drop 2)+pJ (q.2.take i):=by rw [List.take_succ_cons];simp only [pJ,List.foldr_cons,e5]
        have e7:((be2 l,((l.drop 2).drop 2).take (be2 (l.drop 2)))::q.2).getD (i+1) Pc0=q.2.getD i Pc0:=rfl
        dsimp only
        rw [e6,e7]
        refine ⟨by omega,?_,ih.2.2⟩
        refine Eq.trans ?_ ih.2.1
        congr 2
    · cases h
theorem ti {rec:List UInt8}{size:Int}{ps:List Pc}(h:aT rec size=some ps){i:Nat}(hi:i<ps.length):
    3+pJ (ps.take i)+4+(ps.getD i Pc0).2.length≤rec.length∧(rec.drop (3+pJ (ps.take i)+4)).take (ps.getD i Pc0).2.length=(ps.getD i Pc0).2∧((ps.getD i Pc0).1:Int)+((ps.getD i Pc0).2.length:Int)≤size:=by
 obtain ⟨h1,l,hg,_⟩:=df h;obtain ⟨h2,h3,h4⟩:=Ed _ hg i hi
 simp only [List.drop_drop,List.length_drop] at h2 h3 h4;refine ⟨by omega,?_,h4⟩;rw [← h3]
 congr 2
theorem nK:∀ (k:Nat) {size:Int} {l:List UInt8} {last:Int} {r:List UInt8×List Pc},goR k size l last=some r→r.2.length=k
  |0,_,_,_,_,h=>by injection h with h;subst h;rfl
  |k+1,_,_,_,_,h=>by
    rw [goR] at h
    split at h
    · obtain ⟨q,hq,rfl⟩:=Option.map_eq_some_iff.1 h
      simp [nK k hq]
    · cases h
theorem rh {rec:List UInt8}{size:Int}{ps:List Pc}(h:aT rec size=some ps):ps.length<65536:=by
 obtain ⟨_,l,hg,_⟩:=df h;have:=nK _ hg;apply Y 0x131f;intro h2
 simp only at this;exact Zm 0x18
theorem fv {rec:List UInt8}{out:List UInt8}{ps:List Pc}(h:aT rec (out.length:Int)=some ps):∀ i,i≤ps.length→(cR out (ps.take i)).length=out.length
  |0,_=>rfl
  |i+1,hi=>by
    have ih:=fv h i oe
    have ha:=(ti h (i:=i) oe).2.2
    rw [aA ps Pc0 i oe,ew,gd oe]
    exact ih
theorem BY (o:List UInt8)(p:Nat):pZ o p []=o:=by simp [pZ]
theorem xK {o d:List UInt8}{p j:Nat}(h:p+d.length≤o.length)(hj:j<d.length):(pZ o p (d.take j)).set (p+j) (d.getD j 0)=pZ o p (d.take (j+1)):=by
 have l1:(d.take j).length=j:=oN;have l2:(d.take (j+1)).length=j+1:=oN;have hl:=gd (out:=o) (b:=d.take j) (p:=p) oe;have hl2:=gd (out:=o) (b:=d.take (j+1)) (p:=p) oe;refine a8 (d:=0) (by rw [List.length_set,hl,hl2]) (fun i hi=>?_);rw [List.length_set,hl] at hi
 by_cases hp:p+j=i
 ·subst hp;rw [aZ oe,lJ oe,if_pos oe,show p+j-p=j from by omega];apply Y 0xef3f;rw [if_pos oe]
 rw [getD_set_ne hp,lJ oe,lJ oe,l1,l2]
 by_cases h1:p≤i∧i<p+j
 ·rw [if_pos h1,if_pos oe];apply Y 0xef3f;rw [if_pos oe,if_pos oe]
 rw [if_neg h1,if_neg oe]
theorem BZ {rec d:List UInt8}{a j:Nat}(h:(rec.drop a).take d.length=d)(hj:j<d.length):rec.getD (a+j) 0=d.getD j 0:=by
 have:d.getD j 0=((rec.drop a).take d.length).getD j 0:=obV;rw [this];apply Y 0xdf3f;rw [if_pos hj]
def c5 (b rec:List UInt8):Prop:=aT rec (b.length:Int)=none∨b.length<1∨4096<b.length
instance (b rec:List UInt8):Decidable (c5 b rec):=by unfold c5;infer_instance
def pW (b rec:List UInt8):List UInt8:=if c5 b rec then [] else cR b ((aT rec (b.length:Int)).getD [])
def vR (b rec:List UInt8):Int:=if c5 b rec then 210 else 0
theorem lB {b rec:List UInt8}(h:c5 b rec):pW b rec=[]:=if_pos h
theorem BH {b rec:List UInt8}(h:c5 b rec):vR b rec=210:=if_pos h
theorem c5.no {b rec:List UInt8}{ps:List Pc}(h:aT rec (b.length:Int)=some ps)(h1:1≤b.length)(h2:b.length≤4096):¬c5 b rec:=by
 unfold c5;rw [h];rintro (hx|hx)
 ·cases hx
 exact Zm 0x18
theorem lA {b rec:List UInt8}{ps:List Pc}(h:aT rec (b.length:Int)=some ps)(h1:1≤b.length)(h2:b.length≤4096):pW b rec=cR b ps:=by
 unfold pW;rw [if_neg (c5.no h h1 h2),h];exact Zm 0x2
theorem Fe {b rec:List UInt8}{ps:List Pc}(h:aT rec (b.length:Int)=some ps)(h1:1≤b.length)(h2:b.length≤4096):vR b rec=0:=by
 unfold vR;rw [if_neg (c5.no h h1 h2)]
structure UOk (f:Fl)(us:List Int):Prop where
  l:us.length≤64
  r:∀ s,s<us.length→0≤us.getD s 0∧us.getD s 0<(f.data.length:Int)
structure Caps (f:Fl)(a:Fa):Prop where
  row:∀ i,i<f.data.length→f.size≤(a.hs.getD i (none,0)).2
  cd:f.data.length≤a.cD
instance {f:Fl}{a:Fa}:CoeFun (Caps f a) fun _=>∀ i,i<f.data.length→f.size≤(a.hs.getD i (none,0)).2:=⟨Caps.row⟩
def aI (f:Fl)(us:List Int):List UInt8:=us.flatMap fun u=>f.data.getD u.toNat []
theorem zQ (f:Fl)(us:List Int)(u:Int):aI f (us++[u])=aI f us++f.data.getD u.toNat []:=by simp [aI]
theorem fR {f:Fl}(ok:f.Ok):∀ (us:List Int),(∀ u∈us,0≤u∧u<(f.data.length:Int))→(aI f us).length=us.length*f.size
  |[],_=>by simp [aI]
  |u::us,h=>by
    have ih:=fR ok us (fun x hx=>h x (List.mem_cons_of_mem _ hx))
    have h0:=h u (List.mem_cons_self ..)
    have hr:=ok.rows u.toNat oe
    unfold aI at ih ⊢
    rw [List.flatMap_cons,List.length_append,ih,hr,List.length_cons,Nat.succ_mul]
    omega
theorem UOk.mem {f:Fl}{us:List Int}(h:UOk f us):∀ u∈us,0≤u∧u<(f.data.length:Int):=by
 intro u hu;obtain ⟨i,hi,rfl⟩:=List.mem_iff_getElem.1 hu;have:=h.r i hi
 simpa [List.getD_eq_getElem?_getD,hi] using this
theorem Db {f:Fl}{us:List Int}(ok:f.Ok)(h:UOk f us):(aI f us).length=us.length*f.size:=fR ok us h.mem
theorem gB {f:Fl}{us:List Int}(ok:f.Ok)(h:UOk f us)(k:Nat)(hk:k≤us.length):(aI f (us.take k)).length=k*f.size:=by
 rw [fR ok _ (fun u hu=>h.mem u (List.mem_of_mem_take hu)),List.length_take,Nat.min_eq_left hk]
theorem vI {f:Fl}{us:List Int}{s:Nat}(hs:s<us.length):aI f us=aI f (us.take s)++(f.data.getD (us.getD s 0).toNat []++aI f (us.drop (s+1))):=by
 have e:us=us.take s++(us.getD s 0::us.drop (s+1)):=by
  conv=>lhs;rw [← List.take_append_drop s us]
  rw [List.drop_eq_getElem_cons hs]
  simp [List.getD_eq_getElem?_getD,hs]
 conv=>lhs;rw [e]
 simp [aI]
theorem pr {f:Fl}{us:List Int}(ok:f.Ok)(h:UOk f us){s k m:Nat}(hs:s<us.length)(hk:k+m≤f.size):((aI f us).drop (s*f.size+k)).take m=((f.data.getD (us.getD s 0).toNat []).drop k).take m:=by
 have hu:=h.r s hs;have hr:=ok.rows (us.getD s 0).toNat oe;have hl:=gB ok h s oe;rw [vI hs,← List.drop_drop,List.drop_left' hl,List.drop_append_of_le_length oe,List.take_append_of_le_length oo]
theorem Dc {f:Fl}{us:List Int}(ok:f.Ok)(h:UOk f us){s k:Nat}(hs:s<us.length)(hk:k<f.size):(aI f us).getD (s*f.size+k) 0=(f.data.getD (us.getD s 0).toNat []).getD k 0:=by
 have:=pr ok h (k:=k) (m:=1) hs oe;have e:=congrArg (fun l=>l.getD 0 (0:UInt8)) this
 simpa [List.getD_eq_getElem?_getD] using e
def okN (A b:List UInt8)(p k:Nat):Bool:=(List.range k).all fun i=>A.getD (p+i) 0&&&b.getD i 0==b.getD i 0
theorem tu (A b:List UInt8)(p k:Nat):okN A b p (k+1)=(okN A b p k&&(A.getD (p+k) 0&&&b.getD k 0==b.getD k 0)):=by simp [okN,List.range_succ]
theorem D4 {A b:List UInt8}{p k n:Nat}(hk:k<n)(h:A.getD (p+k) 0&&&b.getD k 0≠b.getD k 0):okN A b p n=false:=by
 simp only [okN,List.all_eq_false,List.mem_range];exact ⟨k,hk,by simpa using h⟩
def frm (p z s:Nat):Nat:=max p (s*z)
def too (p z n s:Nat):Nat:=min (p+n) ((s+1)*z)
def bL (b:List UInt8)(p z s:Nat):List UInt8:=(b.drop (frm p z s-p)).take (too p z b.length s-frm p z s)
def eC (A b:List UInt8)(p z s:Nat):Bool:=decide (frm p z s<too p z b.length s)&& !((A.drop (frm p z s)).take (too p z b.length s-frm p z s)==bL b p z s)
theorem jG {A b:List UInt8}{p z s:Nat}(h:¬frm p z s<too p z b.length s):eC A b p z s=false:=by
 unfold eC;rw [decide_eq_false h];exact Zm 0x2
theorem nZ {A b:List UInt8}{p z s:Nat}(h:(A.drop (frm p z s)).take (too p z b.length s-frm p z s)=bL b p z s):eC A b p z s=false:=by
 unfold eC;rw [h];exact Zm 0x51e
theorem nY {A b:List UInt8}{p z s:Nat}(h1:frm p z s<too p z b.length s)(h:(A.drop (frm p z s)).take (too p z b.length s-frm p z s)≠bL b p z s):eC A b p z s=true:=by
 unfold eC;rw [decide_eq_true h1,beq_eq_false_iff_ne.2 h];exact Zm 0x2
theorem ma {p:Nat→Bool}{s:Nat}(h:(List.range s).find? p=none)(h2:p s=false):(List.range (s+1)).find? p=none:=by
 apply Y 0xad1f
 simp [h2]
theorem ua {p:Nat→Bool}{s:Nat}(h:(List.range s).find? p=none)(h2:p s=true):(List.range (s+1)).find? p=some s:=by
 apply Y 0xad1f
 simp [h2]
theorem nT {p:Nat→Bool}{s t:Nat}(h:(List.range s).find? p=some t):(List.range (s+1)).find? p=some t:=by
 exact Zm 0x2ad1f
theorem nS {p:Nat→Bool}{s t m:Nat}(h:(List.range s).find? p=some t)(hm:s≤m):(List.range m).find? p=some t:=by
 obtain ⟨d,rfl⟩:=Nat.exists_eq_add_of_le hm
 clear hm
 induction d with
 |zero=>exact h
 |succ d ih=>exact nT ih
theorem zb {p:Nat→Bool}{s m:Nat}(h:(List.range s).find? p=none)(hm:s≤m)(h2:∀ t,s≤t→p t=false):(List.range m).find? p=none:=by
 obtain ⟨d,rfl⟩:=Nat.exists_eq_add_of_le hm
 clear hm
 induction d with
 |zero=>exact h
 |succ d ih=>exact ma ih (h2 _ (Nat.le_add_right s d))
theorem Gg {p:Nat→Bool}{s t:Nat}(h:(List.range s).find? p=some t):t<s∧p t=true:=by
 exact ⟨List.mem_range.1 (List.mem_of_find?_eq_some h),List.find?_some h⟩
def On (f:Fl)(us:List Int)(b:List UInt8)(p s:Nat):Fo:=⟨2,us.getD s 0,((frm p f.size s-s*f.size:Nat):Int),bL b p f.size s⟩
def fc (f:Fl)(us:List Int)(at_:Int)(b:List UInt8):Prop:=at_<0∨at_>((us.length*f.size:Nat):Int)∨(b.length:Int)>((us.length*f.size:Nat):Int)-at_
instance (f:Fl)(us:List Int)(at_:Int)(b:List UInt8):Decidable (fc f us at_ b):=by unfold fc;infer_instance
def towS (f:Fl)(us:List Int)(at_:Int)(b:List UInt8):Nx:=
  if fc f us at_ b then ⟨fo0,false,210⟩
  else if okN (aI f us) b at_.toNat b.length=false then ⟨fo0,false,210⟩
  else match (List.range us.length).find? (eC (aI f us) b at_.toNat f.size) with
    |none=>⟨fo0,true,0⟩
    |some s=>if f.dead.getD (us.getD s 0).toNat false=true then ⟨fo0,false,171⟩ else ⟨On f us b at_.toNat s,false,0⟩
section
variable {f:Fl}{us:List Int}{at_:Int}{b:List UInt8}
theorem Ha (h:fc f us at_ b):towS f us at_ b=⟨fo0,false,210⟩:=if_pos h
theorem sE (h:¬fc f us at_ b)(h2:okN (aI f us) b at_.toNat b.length=false):towS f us at_ b=⟨fo0,false,210⟩:=by unfold towS;rw [if_neg h,if_pos h2]
theorem sD (h:¬fc f us at_ b)(h2:okN (aI f us) b at_.toNat b.length=true)(h3:(List.range us.length).find? (eC (aI f us) b at_.toNat f.size)=none):towS f us at_ b=⟨fo0,true,0⟩:=by
 unfold towS;rw [if_neg h,if_neg QG,h3]
theorem sC {s:Nat}(h:¬fc f us at_ b)(h2:okN (aI f us) b at_.toNat b.length=true)(h3:(List.range us.length).find? (eC (aI f us) b at_.toNat f.size)=some s)(h4:f.dead.getD (us.getD s 0).toNat false=true):towS f us at_ b=⟨fo0,false,171⟩:=by
 unfold towS;rw [if_neg h,if_neg QG,h3]
 exact if_pos h4
theorem sB {s:Nat}(h:¬fc f us at_ b)(h2:okN (aI f us) b at_.toNat b.length=true)(h3:(List.range us.length).find? (eC (aI f us) b at_.toNat f.size)=some s)(h4:f.dead.getD (us.getD s 0).toNat false=false):towS f us at_ b=⟨On f us b at_.toNat s,false,0⟩:=by
 unfold towS;rw [if_neg h,if_neg QG,h3]
 exact if_neg (by rw [h4];decide)
end
theorem pf {b:List UInt8}{p z s:Nat}(h:frm p z s≤too p z b.length s):(bL b p z s).length=too p z b.length s-frm p z s:=by
 unfold bL too frm at*;exact Zm 0x189d1f
def ffr (p n z s:Nat):Nat:=min (p+n) (max p (s*z))
theorem zf {p n z s:Nat}(hz:0<z)(hp:p<s*z+z)(h:ffr p n z s<p+n):ffr p n z s=frm p z s∧s*z≤ffr p n z s∧ffr p n z s<s*z+z∧p≤ffr p n z s∧frm p z s<too p z n s∧too p z n s≤s*z+z∧too p z n s≤p+n:=by
 unfold ffr frm too at*;rw [Nat.succ_mul];exact Zm 0x18
theorem eu {p n z s:Nat}(hp:p<s*z+z):ffr p n z (s+1)=too p z n s∧p<(s+1)*z+z:=by
 unfold ffr too at*;rw [Nat.succ_mul];exact Zm 0x18
theorem jF (p n z:Nat)(hz:0<z):ffr p n z (p/z)=p∧p<p/z*z+z:=by
 apply Y 0x152f;intro h1;have h2:=Nat.lt_div_mul_add (a:=p) hz
 unfold ffr;exact Zm 0x18
theorem Gj {p n z s:Nat}(hz:0<z)(hp:p<s*z+z)(h:ffr p n z s<p+n):ffr p n z s/z=s∧ffr p n z s%z=ffr p n z s-s*z:=by
 obtain ⟨_,h1,h2,_⟩:=zf hz hp h;have hd:ffr p n z s/z=s:=Nat.div_eq_of_lt_le h1 (by rw [Nat.succ_mul];exact h2);have hm:=Nat.div_add_mod (ffr p n z s) z;rw [hd,Nat.mul_comm] at hm;exact ⟨hd,by omega⟩
theorem I1 {p n z s m:Nat}(hz:0<z)(hp:p<s*z+z)(h:ffr p n z s<p+n)(hr:p+n≤m*z):s<m:=by
 obtain ⟨_,h1,_⟩:=zf hz hp h
 exact Nat.lt_of_mul_lt_mul_right (a:=z) oe
theorem vk {A b:List UInt8}{p z t:Nat}(h:t<p/z):eC A b p z t=false:=by
 apply Y 0x152f;intro h1;have h2:(t+1)*z≤p/z*z:=Nat.mul_le_mul_right z h;refine jG ?_
 unfold frm too;exact Zm 0x18
theorem zg {A b:List UInt8}{p z s t:Nat}(h:¬ffr p b.length z s<p+b.length)(ht:s≤t):eC A b p z t=false:=by
 have h2:s*z≤t*z:=Nat.mul_le_mul_right z ht;refine jG ?_
 unfold ffr frm too at*;exact Zm 0x18
theorem vj (A b:List UInt8)(p z:Nat):(List.range (p/z)).find? (eC A b p z)=none:=by
 apply Y 0x111f;intro t ht;rw [vk (List.mem_range.1 ht)];exact Zm 0xc9e
def gZ (A:List UInt8)(us:List Int)(b:List UInt8)(p z:Nat)(W:Option Addr)(wc s:Nat)(N:Option Addr)(n:Nat)(cs:List Value):Prop:=
  ((List.range s).find? (eC A b p z)=none∧N=none∧n=0∧cs=[])∨
  ∃ t,(List.range s).find? (eC A b p z)=some t∧N.isSome=true∧n=1∧cs=[.int .i64 2,.int .i64 (us.getD t 0),.int .i64 ((frm p z t-t*z:Nat):Int),.slice (bh W wc (frm p z t-p) 1) (bL b p z t).length (wc-(frm p z t-p))]
theorem gZ.none {A:List UInt8}{us:List Int}{b:List UInt8}{p z:Nat}{W:Option Addr}{wc s:Nat}{N:Option Addr}{n:Nat}{cs:List Value}(h:gZ A us b p z W wc s N n cs)(hN:N.isNone=true):(List.range s).find? (eC A b p z)=none∧N=none∧n=0∧cs=[]:=by
 rcases h with h|⟨t,_,h2,_⟩
 ·exact Zm 0xc2e
 rw [Option.isSome_iff_ne_none] at h2
 simp at hN
 exact absurd hN h2
theorem gZ.some {A:List UInt8}{us:List Int}{b:List UInt8}{p z:Nat}{W:Option Addr}{wc s:Nat}{N:Option Addr}{n:Nat}{cs:List Value}(h:gZ A us b p z W wc s N n cs)(hN:N.isNone=false):
    ∃ t,(List.range s).find? (eC A b p z)=some t∧n=1∧cs=[.int .i64 2,.int .i64 (us.getD t 0),.int .i64 ((frm p z t-t*z:Nat):Int),.slice (bh W wc (frm p z t-p) 1) (bL b p z t).length (wc-(frm p z t-p))]:=by
 rcases h with ⟨_,h,_⟩|⟨t,h1,_,h2⟩
 ·subst h
  cases hN
 exact ⟨t,h1,h2⟩
theorem gZ.keep {A:List UInt8}{us:List Int}{b:List UInt8}{p z:Nat}{W:Option Addr}{wc s:Nat}{N:Option Addr}{n:Nat}{cs:List Value}(h:gZ A us b p z W wc s N n cs)(hN:N.isNone=false):gZ A us b p z W wc (s+1) N n cs:=by
 rcases h with ⟨_,h,_⟩|⟨t,h1,h2⟩
 ·subst h
  cases hN
 exact .inr ⟨t,nT h1,h2⟩
theorem zC {b:List UInt8}{p z s j:Nat}(h:j<(bL b p z s).length):(bL b p z s).getD j 0=b.getD (frm p z s-p+j) 0:=by
 unfold bL at*;rw [List.length_take] at h;apply Y 0xdf3f;rw [if_pos oe]
theorem E5 {f:Fl}{us:List Int}(ok:f.Ok)(h:UOk f us){p s j:Nat}(hs:s<us.length)(h1:s*f.size≤frm p f.size s)(h2:frm p f.size s+j<s*f.size+f.size)(h3:p≤frm p f.size s):
    ((f.data.getD (us.getD s 0).toNat []).drop (frm p f.size s-s*f.size)).getD j 0=(aI f us).getD (p+(frm p f.size s-p+j)) 0:=by
 have:=Dc ok h (s:=s) (k:=frm p f.size s-s*f.size+j) hs oe;rw [show p+(frm p f.size s-p+j)=s*f.size+(frm p f.size s-s*f.size+j) from by omega,this]
 simp only [List.getD_eq_getElem?_getD,List.getElem?_drop]
theorem Bv {f:Fl}{us:List Int}(ok:f.Ok)(h:UOk f us){b:List UInt8}{p s:Nat}(hs:s<us.length)(h1:s*f.size≤frm p f.size s)(h2:too p f.size b.length s≤s*f.size+f.size)(h3:frm p f.size s<too p f.size b.length s):
    ((aI f us).drop (frm p f.size s)).take (too p f.size b.length s-frm p f.size s)=((f.data.getD (us.getD s 0).toNat []).drop (frm p f.size s-s*f.size)).take (bL b p f.size s).length:=by
 have:=pr ok h (s:=s) (k:=frm p f.size s-s*f.size) (m:=too p f.size b.length s-frm p f.size s) hs oe;rw [show s*f.size+(frm p f.size s-s*f.size)=frm p f.size s from by omega] at this;rw [this,pf oe]
structure Fnd where
  b:List UInt8
  at_:Int
  e:Int
  deriving DecidableEq
def dt (A:List UInt8)(e:Nat):List UInt8:=(A.drop (e-be2 (A.drop (e-2)))).take (be2 (A.drop (e-2)))
def cm (A:List UInt8)(z e:Int):Prop:=e<2∨e>(A.length:Int)∨((be2 (A.drop (e.toNat-2)):Nat):Int)>e∨aT (dt A e.toNat) z=none
instance (A:List UInt8)(z e:Int):Decidable (cm A z e):=by unfold cm;infer_instance
def aW (A:List UInt8)(z e:Int):Fnd:=if cm A z e then ⟨[],0,210⟩ else ⟨dt A e.toNat,e-((be2 (A.drop (e.toNat-2)):Nat):Int),0⟩
theorem nG {A:List UInt8}{z e:Int}(h:cm A z e):aW A z e=⟨[],0,210⟩:=if_pos h
theorem tL {A:List UInt8}{z e:Int}(h:¬cm A z e):aW A z e=⟨dt A e.toNat,e-((be2 (A.drop (e.toNat-2)):Nat):Int),0⟩:=if_neg h
theorem nH {A:List UInt8}{e:Nat}(h:e≤A.length)(h2:be2 (A.drop (e-2))≤e):(dt A e).length=be2 (A.drop (e-2)):=by
 unfold dt;exact Zm 0x189d1f
section
variable {X:Cx}{β:Base}{n:Nat}{ds:List Deferred}{ops:Array Oper}{Q:Exit→Act→World→Prop}{Γ:Env}{R H:List Pr}{rest:List Oper}
theorem hZ {P:Program}(w:World)(d:Nat){t e:Nat}(A:Option Addr)(h:P.underlying t=some (.pointer e)):(Op.equalIn (d+1) t (ag A 0) (.pointer none)).run P w=.ok A.isNone w:=by
 cases A<;>simp [Op.equalIn,run_underlying h,ag]
theorem pC {t ty e:Nat}{x y:Operand}{A:Option Addr}{i:Ti}(ht:au t X.tab=some i)(hd:i.desc=.pointer e)(hx:ev Γ x=some (ag A 0))(hy:ev Γ y=some (.pointer none)):Ev X β Γ R H (.binOp .eql t x y ty) (.bool A.isNone):=by
 intro ρ w hρ hw o ho;apply Y 0x46e;intro e1;rw [hd] at e1;have hg:(eqGuard .eql t x y (ag A 0) (.pointer none)).run X.P w=.ok () w:=qO;have hr:(Op.equal t (ag A 0) (.pointer none)).run X.P w=.ok A.isNone w:=hZ w 9999 A e1;have hb:(binOp .eql t (ag A 0) (.pointer none)).run X.P w=.ok (.bool A.isNone) w:=by
  apply Y 0x980f
  simp [hr]
 exact Zm 0xc80f
theorem r8 {e:TypeId}{sz m c:Nat}{A:Option Addr}{xs:List Value}{w:World}(h:(Own e sz A m c xs).p w)(h0:0<xs.length):A.isSome=true:=by
 obtain ⟨g,cur,rfl,_⟩:=cC h h0;exact Zm 0x2
theorem Dh {x:Exit}(j:Nat){e sz m cc:Nat}{A:Option Addr}{xs:List Value}(hj:H[j]?=some (Own e sz A m cc xs))(h0:0<xs.length)(h:A.isSome=true→QE β n ds Q x Γ R H):QE β n ds Q x Γ R H:=
  fun a w hf hs=>h (r8 (hs.own j _ hj) h0) a w hf hs
end
end Go.Sl
