/-
  Part of a proof.
-/
import Derived.Test.YtbpddeiogcgegaaGreatUWJoE
set_option maxHeartbeats 0
set_option maxRecDepth 4000
set_option linter.all false
namespace Go.Sl
section
variable {f:Fl}{x:Fo}{mk:Nat→UInt8}
def Phase (k:Nat)(f:Fl)(w:List UInt8):Prop:=
  k=0∨(k=1∧(f.data.getD 0 []=w∨(f.dead.getD 0 false=false∧∀ i,i<f.size→(f.data.getD 0 []).getD i 0=255)))∨(k=2∧f.data.getD 0 []=w)
end
theorem CS {n:Nat}{slot:List UInt8}(h:8+slot.length≤n):(List.replicate n (255:UInt8)).take 8++slot++(List.replicate n 255).drop (8+slot.length)=an n 0 slot:=by
 unfold an;rw [if_neg ob,List.take_replicate,List.drop_replicate,Nat.min_eq_left oe,Nat.sub_sub]
theorem CR {n:Nat}{slot:List UInt8}(h:8+slot.length≤n):(U8 (List.replicate n 255)).take 8++U8 slot++(U8 (List.replicate n 255)).drop (8+(U8 slot).length)=U8 (an n 0 slot):=by
 rw [bu,aJ,gQ,b8,b8,CS h]
theorem uh {n g:Nat}{slot:List UInt8}(hg:0<g):br (c6 g 4)++(an n 0 slot).drop 8=an n (g:Int) slot:=by
 unfold an;rw [if_neg ob,if_pos oe,List.append_assoc,List.drop_append_of_le_length oO,List.drop_of_length_le oO,List.nil_append,← List.append_assoc,Int.toNat_natCast]
theorem CN {n g:Nat}{slot:List UInt8}(hg:0<g):(U8 (an n 0 slot)).take 0++U8 (br (c6 g 4))++(U8 (an n 0 slot)).drop (0+(U8 (br (c6 g 4))).length)=U8 (an n (g:Int) slot):=by
 rw [List.take_zero,List.nil_append,aJ,cQ,dA,gQ,b8,uh hg]
def kg (n:Nat)(slot:List UInt8)(k:Nat):List UInt8:=List.replicate 8 255++slot.take k++List.replicate (n-8-k) 255
theorem kQ {n:Nat}{slot:List UInt8}(h:8≤n):kg n slot 0=List.replicate n 255:=by
 unfold kg;rw [List.take_zero,List.append_nil,List.replicate_append_replicate]
 congr 1;exact Zm 0x18
theorem n7 {n:Nat}{slot:List UInt8}:kg n slot slot.length=an n 0 slot:=by
 unfold kg an;rw [List.take_length,if_neg ob]
theorem n6 {n k:Nat}{slot:List UInt8}(hk:k≤slot.length)(h:8+slot.length≤n):(kg n slot k).length=n:=by
 unfold kg;rw [List.length_append,List.length_append,List.length_replicate,List.length_take,List.length_replicate];exact Zm 0x18
theorem zv {n k:Nat}{slot:List UInt8}(hk:k<slot.length)(h:8+slot.length≤n):(kg n slot k).set (8+k) (slot.getD k 0)=kg n slot (k+1):=by
 unfold kg;have e:n-8-k=(n-8-(k+1))+1:=oe;rw [List.set_append_right _ _ (by rw [List.length_append,List.length_replicate,List.length_take];omega),List.length_append,List.length_replicate,List.length_take,show 8+k-(8+min k slot.length)=0 by omega,e,aA slot 0 k hk]
 simp [List.replicate_succ]
def n5 (n g:Nat)(slot:List UInt8)(k:Nat):List UInt8:=(br (c6 g 4)).take k++(an n 0 slot).drop k
theorem cA (g:Nat):(br (c6 g 4)).length=8:=by rw [cQ,dA]
theorem zu {n g:Nat}{slot:List UInt8}(hg:0<g):n5 n g slot 8=an n (g:Int) slot:=by
 unfold n5;rw [List.take_of_length_le (by rw [cA];exact Nat.le_refl _),uh hg]
theorem n4 {n g k:Nat}{slot:List UInt8}(hk:k≤8)(h:8+slot.length≤n):(n5 n g slot k).length=n:=by
 unfold n5;rw [List.length_append,List.length_take,cA,List.length_drop,bZ h];exact Zm 0x18
theorem zt {n g k:Nat}{slot:List UInt8}(hk:k<8)(h:8+slot.length≤n):(n5 n g slot k).set k ((br (c6 g 4)).getD k 0)=n5 n g slot (k+1):=by
 unfold n5;have hc:=cA g;have hl:=bZ (gen:=0) h;rw [List.set_append_right _ _ oN,List.length_take,show k-min k (br (c6 g 4)).length=0 by omega,List.drop_eq_getElem_cons oe,List.set_cons_zero,aA (br (c6 g 4)) 0 k oe];exact Zm 0x51e
theorem Ga (row:List UInt8): -1≤rN row∧rN row<4294967296:=by
 unfold rN
 split
 ·have:=kZ (bY row 4);rw [bO] at this;exact Zm 0x18
 exact Zm 0x18
theorem xZ (f:Fl)(a b:Int):(aj f a b).gen=rN (aV f (aj f a b).sec):=oaV
structure JFnd (f:Fl)(a b:Int)(x:Lg):Prop where
  fits:du f a b=true
  gen:0≤x.gen∧x.gen<4294967296
  sec:0≤x.sec∧x.sec<(f.data.length:Int)
  oth:0≤x.oth∧x.oth<(f.data.length:Int)
  free:x.free≤ej f
  torn:x.torn≤ej f
theorem nV {f:Fl}{a b:Int}(h:(aq f a b).found=true):JFnd f a b (aq f a b):=by
 unfold aq at h ⊢
 split
 ·rename_i h1;rw [if_pos h1] at h
  split
  ·rename_i h2;rw [if_pos h2,ek] at h
   cases h
  rename_i h2;have hk:=kv (aV f (aj f a b).sec) (aj f a b) (ej f);have hs:=jq h1;have hg:=Ga (aV f (aj f a b).sec);rw [← xZ] at hg;have hf:=kx (row:=aV f (aj f a b).sec) (x:=aj f a b) fq.1 fq.2 (ej f);exact ⟨h1,by rw [hk.2.2];omega,by rw [hk.1];exact ⟨hs.1,hs.2.1⟩,by rw [hk.2.1];exact ⟨hs.2.2.1,hs.2.2.2⟩,hf.1,hf.2⟩
 rename_i h1;rw [if_neg h1] at h
 cases h
section
variable {f:Fl}{a b:Int}{s:List Int}{x:Lg}
theorem ye (h:(aq f a b).found=false∨aY s=false):aR f a b s=⟨fo0,false,200⟩:=if_pos h
theorem rD (hx:x=aq f a b)(h1:x.found=true)(h2:aY s=true)(h3:x.s=s):aR f a b s=⟨fo0,true,0⟩:=by
 subst hx
 unfold aR;rw [if_neg (by rw [h1,h2];exact fun h=>by rcases h with h|h<;>cases h),if_pos h3]
theorem rB (hx:x=aq f a b)(h1:x.found=true)(h2:aY s=true)(h3:x.s≠s)(h4:x.free<ej f):aR f a b s=dL f ⟨2,x.sec,8+30*(x.free:Int),ax s⟩:=by
 subst hx
 unfold aR;rw [if_neg (by rw [h1,h2];exact fun h=>by rcases h with h|h<;>cases h),if_neg h3,if_pos h4]
theorem rA (hx:x=aq f a b)(h1:x.found=true)(h2:aY s=true)(h3:x.s≠s)(h4:¬x.free<ej f)(h5:dS (aV f x.oth) (an f.size (x.gen+1) (ax s))=true):aR f a b s=dL f ⟨2,x.oth,0,(an f.size (x.gen+1) (ax s)).take 8⟩:=by
 subst hx
 unfold aR;rw [if_neg (by rw [h1,h2];exact fun h=>by rcases h with h|h<;>cases h),if_neg h3,if_neg h4,if_pos h5]
theorem rz (hx:x=aq f a b)(h1:x.found=true)(h2:aY s=true)(h3:x.s≠s)(h4:¬x.free<ej f)(h5:dS (aV f x.oth) (an f.size (x.gen+1) (ax s))=false):aR f a b s=aO f x.oth (an f.size 0 (ax s)):=by
 subst hx
 unfold aR;rw [if_neg (by rw [h1,h2];exact fun h=>by rcases h with h|h<;>cases h),if_neg h3,if_neg h4,if_neg (by rw [h5];exact Bool.false_ne_true)]
theorem px {b w:List UInt8}{k n:Nat}(h:k≤n):cB b (w.take n) k=cB b w k:=by
 induction k with
 |zero=>rfl
 |succ k ih=>rw [cS,cS,ih oe,eV oe]
theorem nO (h:du f a b=false∨aY s=false):bH f a b s=(flz,200):=if_pos h
theorem yU {g:Fl}{e:Int}(h1:du f a b=true)(h2:aY s=true)(hr:ao a (an f.size 1 (ax s)) 3 f=(g,e))(he:e≠0):bH f a b s=(flz,e):=by
 unfold bH;rw [if_neg (by rw [h1,h2];exact fun h=>by rcases h with h|h<;>cases h),hr,if_pos he]
theorem yT {g h:Fl}{e:Int}(h1:du f a b=true)(h2:aY s=true)(hr:ao a (an f.size 1 (ax s)) 3 f=(g,0))(hq:ao b (an f.size 0 []) 3 g=(h,e))(he:e≠0):bH f a b s=(flz,e):=by
 unfold bH;rw [if_neg (by rw [h1,h2];exact fun h=>by rcases h with h|h<;>cases h),hr]
 simp only [ne_eq,not_true_eq_false,if_false,hq];rw [if_pos he]
theorem nN {g h:Fl}(h1:du f a b=true)(h2:aY s=true)(hr:ao a (an f.size 1 (ax s)) 3 f=(g,0))(hq:ao b (an f.size 0 []) 3 g=(h,0)):bH f a b s=(h,0):=by
 unfold bH;rw [if_neg (by rw [h1,h2];exact fun h=>by rcases h with h|h<;>cases h),hr]
 simp only [ne_eq,not_true_eq_false,if_false,hq]
end
section
variable {f:Fl}{sec:Int}{want:List UInt8}
theorem fj (f:Fl)(sec:Int)(want:List UInt8):(dW f sec want).sec=sec:=by unfold dW;split<;>rfl
theorem K6 (hs:0≤sec∧sec<(f.data.length:Int))(hw:want.length=f.size)(hd:(aO f sec want).done=true):aV f sec=want:=by
 apply Y 0xb90f;intro hin
 by_cases h2:f.data.getD sec.toNat []=want
 ·exact h2
 by_cases h3:aU f (dW f sec want)≠0
 ·rw [mT hin h2 rfl h3] at hd
  cases hd
 rw [km hin h2 rfl h3] at hd
 cases hd
theorem wb (hs:0≤sec∧sec<(f.data.length:Int))(hw:want.length=f.size)(hd:¬((aO f sec want).done=true∨(aO f sec want).e≠0)):aV f sec≠want∧(aO f sec want).x=dW f sec want∧aU f (dW f sec want)=0:=by
 apply Y 0xb90f;intro hin
 by_cases h2:f.data.getD sec.toNat []=want
 ·rw [ko hin h2] at hd
  exact absurd (.inl rfl) hd
 by_cases h3:aU f (dW f sec want)≠0
 ·rw [mT hin h2 rfl h3] at hd
  exact absurd (.inr h3) hd
 exact ⟨h2,by rw [km hin h2 rfl h3],by simpa using h3⟩
theorem sv (hs:0≤sec∧sec<(f.data.length:Int))(hw:want.length=f.size)(hb:k9 (aV f sec) want f.size=true)(hx:dW f sec want=⟨2,sec,0,want⟩):aV (iK f (dW f sec want) (fun _=>255)) sec=want:=by
 have e:aV (iK f (dW f sec want) (fun _=>255)) sec=vP f (dW f sec want) (fun _=>255):=by
  have:=uf (f:=f) (x:=dW f sec want) (mk:=fun _=>255) (by rw [fj];omega);rw [fj] at this
  exact this
 rw [e,hx];refine a8 (d:=0) (by rw [fo,hw]) fun i hi=>?_
 rw [fo] at hi;rw [sV hi,DO,zP (by show (2:Int)≠1;decide) ot];have h:=List.all_eq_true.1 hb i (List.mem_range.2 hi);have h0:want.getD i 0&&& ~~~((aV f sec).getD i 0)=0:=qP
 show (aV f sec).getD i 0&&&want.getD ((i:Int)-0).toNat 0=want.getD i 0;rw [show ((i:Int)-0).toNat=i from by omega]
 exact (ey _ _).2 h0
theorem mS (hs:0≤sec∧sec<(f.data.length:Int))(hx:dW f sec want=⟨1,sec,0,[]⟩):aV (iK f (dW f sec want) (fun _=>255)) sec=List.replicate f.size 255:=by
 have e:aV (iK f (dW f sec want) (fun _=>255)) sec=vP f (dW f sec want) (fun _=>255):=by
  have:=uf (f:=f) (x:=dW f sec want) (mk:=fun _=>255) (by rw [fj];omega);rw [fj] at this
  exact this
 rw [e,hx];refine a8 (d:=0) (by rw [fo,List.length_replicate]) fun i hi=>?_
 rw [fo] at hi;rw [sV hi,DO,Eu rfl,dE _ _ _ _ hi]
theorem pq (want:List UInt8)(n:Nat):k9 (List.replicate n 255) want n=true:=by
 refine List.all_eq_true.2 fun i hi=>?_
 rw [dE _ _ _ _ (List.mem_range.1 hi)];have:want.getD i 0&&& ~~~(255:UInt8)=0:=by
  rw [show ~~~(255:UInt8)=0 from rfl]
  exact zS _
 rw [this];exact Zm 0x2
def tMu (f:Fl)(sec:Int)(want:List UInt8):Nat:=if aV f sec=want then 0 else if k9 (aV f sec) want f.size=true then 1 else 2
theorem HK (f:Fl)(sec:Int)(want:List UInt8):tMu f sec want≤2:=by unfold tMu;split;exact Nat.zero_le _;split<;>decide
theorem AK (hs:0≤sec∧sec<(f.data.length:Int))(hw:want.length=f.size)(hd:¬((aO f sec want).done=true∨(aO f sec want).e≠0)):tMu (fK f (aO f sec want).x (fun _=>255)) sec want<tMu f sec want:=by
 obtain ⟨h1,h2,h3⟩:=wb hs hw hd;rw [h2,cX h3]
 unfold tMu;rw [if_neg h1]
 by_cases hb:k9 (aV f sec) want f.size=true
 ·rw [if_pos hb,if_pos (sv hs hw hb (sA hb))];exact Zm 0xc9e
 rw [if_neg hb];have e:=mS (want:=want) hs (sx (show k9 (aV f sec) want f.size=false by simpa using hb))
 split
 ·exact Zm 0xc9e
 rw [e];have:(iK f (dW f sec want) (fun _=>255)).size=f.size:=rfl;rw [this,if_pos (pq _ _)];exact Zm 0xc9e
theorem jk {k:Nat}(hd:¬((aO f sec want).done=true∨(aO f sec want).e≠0)):ao sec want (k+1) f=ao sec want k (fK f (aO f sec want).x (fun _=>255)):=by
 show (if _ then _ else _)=_;rw [if_neg hd]
theorem jj:∀ (k:Nat) (f:Fl),f.Ok→(0≤sec∧sec<(f.data.length:Int))→want.length=f.size→(ao sec want k f).1.Ok∧(ao sec want k f).1.size=f.size∧(ao sec want k f).1.data.length=f.data.length
  |0,_,ok,_,_=>⟨ok,rfl,rfl⟩
  |k+1,f,ok,hs,hw=>by
    by_cases hd:(aO f sec want).done=true∨(aO f sec want).e≠0
    · have e:ao sec want (k+1) f=(f,(aO f sec want).e):=if_pos hd
      rw [e]
      exact ⟨ok,rfl,rfl⟩
    · have e:ao sec want (k+1) f=ao sec want k (fK f (aO f sec want).x (fun _=>255)):=if_neg hd
      rw [e]
      obtain ⟨_,h2,h3⟩:=wb hs hw hd
      have K:=jH (x:=(aO f sec want).x) ok (by rw [h2];exact h3) (fun _=>255)
      obtain ⟨r1,r2,r3⟩:=jj k _ K.ok (by rw [K.n];exact hs) (by rw [K.s];exact hw)
      exact ⟨r1,r2.trans K.s,r3.trans K.n⟩
theorem gJ {k:Nat}(hd:(aO f sec want).done=true∨(aO f sec want).e≠0):ao sec want k f=(f,(aO f sec want).e):=by
 cases k with
 |zero=>rfl
 |succ k=>exact if_pos hd
end
end Go.Sl
namespace Go.Proofs.YtbpddeiogcgegaaGreat
open Go.Sl
theorem sK {n:Nat}{s:List Int}(h:38≤n):8+(ax s).length≤n:=by
 rcases sL s with e|e
 ·exact Zm 0x18
 rw [e]
 simp;exact Zm 0x18
theorem nk (x:UInt8)(B:Option Addr)(bc n:Nat)(h1:1≤n)(hn:n≤4096):
    Ctr X 178 [.slice B 1 bc,.int .i64 (n:Int)] [Rd B (U8 [x])] [] (fun v R' H'=>∃ A oc,v=.slice A n n∧R'=[]∧H'=[Own 5 1 A n oc (U8 (List.replicate n x))]):=by
 refine co Tryz.func178 ?_;intro β;apply Zu 0x4d38581a<;>intro
 ·exact Zm 0x18
 apply Zu 0x2a5859<;>intro
 ·exact Zm 0x18
 apply Y 0x253f71b1f1c59;refine al (Iw n oe) ?_;apply Zu 0xa61fb858d82888<;>intro
 ·exact Zm 0x18
 apply Zu 0x2af9<;>intro
 ·exact Zm 0x18
 apply Zu 0x4dd8581a8eb959<;>intro
 ·exact Zm 0x18
 apply Zu 0x2a58c859<;>intro
 ·exact Zm 0x18
 apply Y 0xb959;refine L.makeNoZero (t:=24) (ps:=#[3]) (f:=223) (fn:=Tryz.f223) Tryz.func223 rfl rfl rfl oa rfl rfl rfl rfl oe rfl (fun A c ys hc hy=>?_);apply Y 0x28;refine sp (vM (h:=n) (m:=n) rfl rfl rfl rfl rfl rfl rfl rfl oe oe) ?_;apply Y 0x1c1;refine L.copy (j:=0) (o:=0) rfl rfl rfl rfl rfl (fun g h _=>h) rfl rfl (Src.r 0 rfl) (by simp [U8];omega) (bQ _) (by rw [aJ,aJ];simp;omega) rfl ?_;apply Y 0xaa49;refine lp [] [] (fun q:Nat×List UInt8=>[(7,.int .i64 (n:Int)),(8,.int .i64 (n:Int)),(9,.slice A n n),(10,.int .i64 (q.1:Int))]) nz (fun q=>[Own 5 1 A n c (U8 (List.replicate q.1 x++q.2))]) (fun q=>1≤q.1∧q.1≤n∧q.2.length=n-q.1) (fun q=>n-q.1) (1,ys.drop 1) ⟨Nat.le_refl _,h1,by simp [hy]⟩ (by exact lk [] [0] ⟨rfl,rfl,rfl,oP,trivial⟩ (hh:=⟨(congrArg some (ay rfl (by simp [U8]))),trivial⟩)) ?_;apply Y 0x5a2f;intro p ys hp1 hp2 hyl
 dsimp only at hp1 hp2 hyl ⊢;apply Zu 0x79d858<;>intro
 ·apply Y 0x1caa59;refine sp (Ev.cast (u:=.int .i64 (p:Int)) (Ev.pure rfl) (congrArg (Value.int .i64) (if_neg (show ¬ (n:Int)<(p:Int) by omega)))) ?_;apply Y 0x76e3f93f5de37bbe181fcf2fcd0fbd0fad0ffb0f1;refine L.copy (j:=0) (o:=p) (xs:=U8 (List.replicate p x++ys)) (ys:=U8 (List.replicate (min p (n-p)) x)) (D:=bh A n p 1) (dn:=n-p) rfl rfl rfl rfl rfl (fun g h _=>wt (n:=n) (p:=p) h oe) rfl rfl (Src.cast (Src.take (Src.o 0 oP) (min p (n-p))) (lC (p:=p) (k:=min p (n-p)) (ys:=ys) oe)) QW (bQ _) qX oP ?_;apply Y 0x3f1f17e3;intro e8;apply Y 0x86e5c9ae3da;refine QE.round (i:=(p,ys)) ((p+min p (n-p),ys.drop (min p (n-p)))) q7 ot (by exact lk [] [0] ⟨rfl,rfl,rfl,q8,trivial⟩ (hh:=⟨(congrArg some (ay rfl (sZ hyl hp2))),trivial⟩))
 apply Y 0xe8c8a9;obtain rfl:p=n:=oe;obtain rfl:ys=[]:=List.eq_nil_of_length_eq_zero oe;apply Y 0x91e;exact ⟨A,c,rfl,rfl,by rw [List.append_nil];rfl⟩
theorem zo (n g:Nat)(A:Option Addr)(c:Nat)(slot:List UInt8)(hn:n≤4096)(hs:8+slot.length≤n):
    Ctr X 112 [.int .i64 (n:Int),.int .i64 (g:Int),.slice A slot.length c] [Rd A (U8 slot)] [] (fun v R' H'=>∃ O oc,v=.slice O n n∧R'=[]∧H'=[Own 5 1 O n oc (U8 (an n (g:Int) slot))]):=by
 refine co Tryz.func112 ?_;intro β;apply Y 0x2b481a;intro A9;apply Y 0x520f7;refine al (nk 255 _ _ n oe hn) ?_;apply Y 0x19;intro O oc;apply Y 0xb91;refine sp (bt (l:=8) rfl rfl rfl rfl rfl rfl oe) ?_;apply Y 0x7;refine L.copy (j:=0) (o:=8) (xs:=U8 (List.replicate n 255)) (ys:=U8 slot) (D:=bh O n 8 1) (dn:=n-8) rfl rfl rfl rfl rfl (fun g h hp=>wt (n:=n) (p:=8) h (by rw [aJ] at hp;omega)) rfl rfl (Src.r 1 rfl) oG (bQ _) (by rw [aJ,aJ,List.length_replicate];omega) rfl ?_;rw [CR hs];apply Zu 0x2a5898<;>intro
 ·apply Y 0x7b8b;intro A19;apply Y 0x49;refine hI 5 1 ?_;apply Y 0xac;refine L.call (js:=[1,2]) (js':=[0]) (H9 A19 none [] 0 g 4 ob ob) rfl rfl rfl ob trivial rfl ?_;apply Y 0x19;intro A' c';rw [show ([]++br (c6 g 4):List UInt8)=br (c6 g 4) from rfl];apply Y 0x94ee95dac98;refine L.copy (j:=2) (o:=0) (xs:=U8 (an n 0 slot)) (ys:=U8 (br (c6 g 4))) (D:=O) (dn:=n) rfl rfl rfl rfl rfl (fun g h _=>h) rfl rfl (Src.o 1 rfl) (by rw [aJ,cA];omega) (bQ _) (by rw [aJ,aJ,cA,bZ hs];omega) rfl ?_;rw [CN oe];exact Zm 0xbb0fea1fe8c898
 apply Y 0x91ee8c859;obtain rfl:g=0:=oe;exact Zm 0xbb0f
theorem rU (n g:Nat)(s:List Int)(hn:n≤4096)(hs:38≤n):
    Ctr X 57 [.int .i64 (n:Int),.int .i64 (g:Int),.agg (List.toArray (st9 s))] [] [] (fun v R' H'=>∃ O,v=.slice O n n∧R'=[]∧H'=[Own 5 1 O n n (U8 (an n (g:Int) (ax s)))]):=by
 have hsl:=sK (s:=s) hs;refine co Tryz.func57 ?_;intro β;apply Y 0x6a;intro A5;apply Y 0xabcae49;refine al (rY n oe) ?_;apply Y 0x41e;intro A13;apply Y 0x63e481;refine al (wR s) ?_;apply Y 0x19;intro SO sc;apply Y 0xcd49;refine lp [0,1,7,8] [_,_,_,_] (fun k:Nat=>[(9,.int .i64 (k:Int))]) (kz [_]) (fun k=>[Own 5 1 A13 n n (U8 (kg n (ax s) k)),Own 5 1 SO (ax s).length sc (U8 (ax s))]) (fun k=>k≤(ax s).length) (fun k=>(ax s).length-k) 0 (Nat.zero_le _) (by exact lk [0] [1,0] (hh:=⟨(by rw [kQ oe];rfl),rfl,trivial⟩)) ?_;intro k hk;apply Zu 0x2a9d<;>intro
 ·apply Y 0xac99;refine sp (Ev.cast (u:=.int .i64 ((8+k:Nat):Int)) (Ev.add rfl rfl oe oe) (congrArg (Value.int .i64) oe)) ?_;apply Y 0x28;refine sp (ae (k:=k) rfl rfl rfl rfl rfl rfl rfl oe (Src.o 1 rfl) oG) ?_;refine sp (Ev.load rfl rfl rfl (Src.o 1 rfl) (bp oe)) ?_;refine sp (ae (k:=(8+k)) rfl rfl rfl rfl rfl rfl rfl oe (Src.o 0 rfl) (by rw [aJ,n6 oe hsl];omega)) ?_;refine L.store (j:=0) rfl rfl rfl rfl rfl rfl rfl (by exact bp (by rw [n6 oe hsl];omega)) ?_;apply Y 0x9a60e;refine QE.round (k+1) oe oe (by exact lk [0] [0,1] (hh:=⟨(by rw [← zv oe hsl,← jZ];rfl),rfl,trivial⟩))
 apply Y 0xb9a9;refine al (eN g 4 ob) ?_;apply Y 0x19;intro NO nc;refine al (zB NO nc (c6 g 4) (by rw [dA];decide)) ?_;apply Y 0x19;intro CO cc;apply Y 0xcd49;obtain rfl:k=(ax s).length:=oe;rw [n7];refine lp [1,7,10] [_,_,_] (fun k:Nat=>[(11,.int .i64 (k:Int))]) (kz [_]) (fun k=>[Own 5 1 A13 n n (U8 (n5 n g (ax s) k)),Own 5 1 CO (br (c6 g 4)).length cc (U8 (br (c6 g 4)))]) (fun k=>k≤8∧(k=0∨0<g)) (fun k=>8-k) 0 ⟨Nat.zero_le _,.inl rfl⟩ (lk [0] [2,0]) ?_;apply Y 0xb1e;intro k hk hg;apply Zu 0xa50fb858<;>intro
 ·apply Zu 0x2af9<;>intro
  ·apply Y 0x28ac99;refine sp (ae (k:=k) rfl rfl rfl rfl rfl rfl rfl (by rw [cA];omega) (Src.o 1 rfl) (by rw [aJ,cA];omega)) ?_;refine sp (Ev.load rfl rfl rfl (Src.o 1 rfl) (bp (by rw [cA];omega))) ?_;refine sp (ae (k:=k) rfl rfl rfl rfl rfl rfl rfl oe (Src.o 0 rfl) (by rw [aJ,n4 oe hsl];omega)) ?_;refine L.store (j:=0) rfl rfl rfl rfl rfl rfl rfl (by exact bp (by rw [n4 oe hsl];omega)) ?_;apply Y 0x9a60e;refine QE.round (k+1) (by exact ⟨by omega,.inr oe⟩) oe (by exact lk [0] [0,1] (hh:=⟨(by rw [← zt oe hsl,← jZ];rfl),rfl,trivial⟩))
  apply Y 0x91ee8c8a9;obtain rfl:g=0:=oe;obtain rfl:k=0:=oe;exact ⟨A13,rfl,rfl,rfl⟩
 apply Y 0x1fd;refine C.cond rfl (fun h=>by cases h) (fun _=>?_);apply Y 0x91ee8c8a9;obtain rfl:k=8:=oe;rw [zu oe];exact ⟨A13,rfl,rfl,rfl⟩
theorem GF (A W:Option Addr)(c wc:Nat)(b w:List UInt8)(hl:w.length≤b.length)(hw:w.length≤4096):
    Ctr X 114 [.slice A b.length c,.slice W w.length wc] [Rd A (U8 b),Rd W (U8 w)] [] (fun v R' H'=>v=.bool (cB b w w.length)∧R'=[]∧H'=[]):=by
 refine co Tryz.func114 ?_;intro β;apply Y 0xaad8581a;refine lp [0,7,8] [_,_,_] (fun k:Nat=>[(9,.int .i64 (k:Int))]) (kz [_,_]) nz (fun k=>k≤w.length∧cB b w k=true) (fun k=>w.length-k) 0 ⟨Nat.zero_le _,rfl⟩ (lk [0,1] []) ?_;apply Y 0xb1e;intro k hk ha;apply Zu 0x7930e<;>intro
 ·apply Y 0xb999;refine sp (ae (k:=k) rfl rfl rfl rfl rfl rfl rfl oe (Src.r 1 rfl) oG) ?_;apply Zu 0xdd38af0f72be8b1f1c38db1f<;>intro hc21
  ·have hno:=vK (b:=b) (w:=w) (k:=k) (n:=w.length) oe (fun h=>hc21 (dJ.2 h));apply Y 0x4b3da0e;rw [hno];exact Zm 0x33e
  apply Y 0x20efb7a;refine QE.round (k+1) (by exact ⟨by omega,by rw [cS,ha,Bool.true_and,beq_iff_eq];exact dJ.1 hc21⟩) oe (lk [0,1] [])
 apply Y 0xd91aa9;obtain rfl:k=w.length:=oe;rw [ha];exact Zm 0x33e
theorem xQ (f:Fl)(a:Fa)(ok:f.Ok)(_hh:a.hs.length=f.data.length)(sec at_:Int)(d:List UInt8)(A:Option Addr)(c:Nat)(hsec:0≤sec∧sec<(f.data.length:Int)):
    Ctr X 111 [flV f a,.int .i64 sec,.int .i64 at_,.slice A d.length c] (flR f a++[Rd A (U8 d)]) [] (fun v R' H'=>∃ O oc,v=.tuple #[.agg (List.toArray [.int .i64 (dL f ⟨2,sec,at_,d⟩).x.kind,.int .i64 (dL f ⟨2,sec,at_,d⟩).x.sec,.int .i64 (dL f ⟨2,sec,at_,d⟩).x.at_,.slice O (dL f ⟨2,sec,at_,d⟩).x.data.length oc]),.bool (dL f ⟨2,sec,at_,d⟩).done,.int .i64 (dL f ⟨2,sec,at_,d⟩).e]∧R'=[Rd O (U8 (dL f ⟨2,sec,at_,d⟩).x.data)]∧H'=[]):=by
 obtain ⟨os1,os2,on1,on2,owl,odl,orows,ol1,ol2,owear⟩:=ok;refine co Tryz.func111 ?_;intro β;apply Y 0x6a;intro A4;apply Y 0xa8;intro A8;apply Y 0x7f8787c5538;refine sp (ae (k:=sec.toNat) rfl rfl rfl rfl rfl rfl oe oe (Src.r 4 rfl) qK) ?_;refine sp (Ev.load rfl rfl rfl (Src.r 4 rfl) (kY oe)) ?_;apply Zu 0x3a98<;>intro hc15
 ·have hd:f.dead.getD (Fo.mk 2 sec at_ d).sec.toNat false=true:=hc15;apply Zu 0xed65eb0e386b8b
  ·apply Y 0xcce;rw [if_pos hd];exact Zm 0x2
  apply Y 0xcce;rw [if_pos hd];exact Zm 0x2
 have hd:¬ f.dead.getD (Fo.mk 2 sec at_ d).sec.toNat false=true:=by rw [show (Fo.mk 2 sec at_ d).sec=sec from rfl,hc15];exact Bool.false_ne_true
 apply Y 0xe8386bbab88d;refine qrt [5] [] [_,_,_] rfl ⟨⟨_,_,0,_,rfl,rfl,Src.o 0 rfl,.inl ⟨rfl,by decide,_,rfl,rfl,rfl⟩⟩,rfl,rfl,trivial⟩ ?_;refine ⟨A,c,?_,?_,rfl⟩
 ·apply Y 0xcce;rw [if_neg hd];exact Zm 0x2
 apply Y 0xcce;rw [if_neg hd];exact Zm 0x2
theorem xP (f:Fl)(a:Fa)(ok:f.Ok)(_hh:a.hs.length=f.data.length)(sec at_:Int)(d:List UInt8)(A:Option Addr)(c:Nat)(hsec:0≤sec∧sec<(f.data.length:Int)):
    Ctr X 210 [flV f a,.agg (List.toArray [.int .i64 2,.int .i64 sec,.int .i64 at_,.slice A d.length c])] (flR f a++[Rd A (U8 d)]) [] (fun v R' H'=>∃ O oc,v=.agg (List.toArray [.int .i64 (dL f ⟨2,sec,at_,d⟩).x.kind,.int .i64 (dL f ⟨2,sec,at_,d⟩).x.sec,.int .i64 (dL f ⟨2,sec,at_,d⟩).x.at_,.slice O (dL f ⟨2,sec,at_,d⟩).x.data.length oc,.bool (dL f ⟨2,sec,at_,d⟩).done,.int .i64 (dL f ⟨2,sec,at_,d⟩).e])∧R'=[Rd O (U8 (dL f ⟨2,sec,at_,d⟩).x.data)]∧H'=[]):=by
 obtain ⟨os1,os2,on1,on2,owl,odl,orows,ol1,ol2,owear⟩:=ok;refine co Tryz.func210 ?_;intro β;apply Y 0x6a;intro A2;apply Y 0x7b;intro A3;apply Y 0xa8;intro A4;apply Y 0xf83b787cd1e5cb;refine sp (ae (k:=sec.toNat) rfl rfl rfl rfl rfl rfl oe oe (Src.r 5 rfl) qK) ?_;apply Zu 0x3a98cde<;>intro hc10
 ·have hd:f.dead.getD (Fo.mk 2 sec at_ d).sec.toNat false=true:=hc10;apply Zu 0xedccb0e5b8b
  ·apply Y 0xcce;rw [if_pos hd];exact Zm 0x2
  apply Y 0xcce;rw [if_pos hd];exact Zm 0x2
 have hd:¬ f.dead.getD (Fo.mk 2 sec at_ d).sec.toNat false=true:=by rw [show (Fo.mk 2 sec at_ d).sec=sec from rfl,hc10];exact Bool.false_ne_true
 apply Y 0xe85bba63e8d;refine qrt [6] [] [_] rfl ⟨⟨_,_,0,_,rfl,rfl,Src.o 0 rfl,.inl ⟨rfl,by decide,_,rfl,rfl,rfl⟩⟩,trivial⟩ ?_;refine ⟨A,c,?_,?_,rfl⟩
 ·apply Y 0xcce;rw [if_neg hd];exact Zm 0x2
 apply Y 0xcce;rw [if_neg hd];exact Zm 0x2
end Go.Proofs.YtbpddeiogcgegaaGreat
