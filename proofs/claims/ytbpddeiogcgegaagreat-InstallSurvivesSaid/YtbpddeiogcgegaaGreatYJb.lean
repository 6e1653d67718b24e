/-
  Part of a proof.
-/
import Derived.Test.YtbpddeiogcgegaaGreatYWJoB
set_option maxHeartbeats 0
set_option maxRecDepth 4000
set_option linter.all false
namespace Go.Sl
theorem E4 {n:Nat}{slot:List UInt8}(h:8+slot.length≤n):(List.replicate n (255:UInt8)).take 8++slot++(List.replicate n 255).drop (8+slot.length)=al n 0 slot:=by
 unfold al;rw [if_neg ob,List.take_replicate,List.drop_replicate,Nat.min_eq_left oe,Nat.sub_sub]
theorem E3 {n:Nat}{slot:List UInt8}(h:8+slot.length≤n):(U8 (List.replicate n 255)).take 8++U8 slot++(U8 (List.replicate n 255)).drop (8+(U8 slot).length)=U8 (al n 0 slot):=by
 rw [cj,aH,jg,cy,cy,E4 h]
theorem wO {n g:Nat}{slot:List UInt8}(hg:0<g):aW (cz g 4)++(al n 0 slot).drop 8=al n (g:Int) slot:=by
 unfold al;rw [if_neg ob,if_pos oe,List.append_assoc,List.drop_append_of_le_length Ob,List.drop_of_length_le Ob,List.nil_append,← List.append_assoc,Int.toNat_natCast]
theorem EZ {n g:Nat}{slot:List UInt8}(hg:0<g):(U8 (al n 0 slot)).take 0++U8 (aW (cz g 4))++(U8 (al n 0 slot)).drop (0+(U8 (aW (cz g 4))).length)=U8 (al n (g:Int) slot):=by
 rw [List.take_zero,List.nil_append,aH,dg,cJ,jg,cy,wO hg]
def l9 (n:Nat)(slot:List UInt8)(k:Nat):List UInt8:=List.replicate 8 255++slot.take k++List.replicate (n-8-k) 255
theorem mM {n:Nat}{slot:List UInt8}(h:8≤n):l9 n slot 0=List.replicate n 255:=by
 unfold l9;rw [List.take_zero,List.append_nil,List.replicate_append_replicate]
 congr 1
 omega
theorem sV {n:Nat}{slot:List UInt8}:l9 n slot slot.length=al n 0 slot:=by
 unfold l9 al;rw [List.take_length,if_neg ob]
theorem sU {n k:Nat}{slot:List UInt8}(hk:k≤slot.length)(h:8+slot.length≤n):(l9 n slot k).length=n:=by
 unfold l9;rw [List.length_append,List.length_append,List.length_replicate,List.length_take,List.length_replicate]
 omega
theorem B4 {n k:Nat}{slot:List UInt8}(hk:k<slot.length)(h:8+slot.length≤n):(l9 n slot k).set (8+k) (slot.getD k 0)=l9 n slot (k+1):=by
 unfold l9;have e:n-8-k=(n-8-(k+1))+1:=oe;rw [List.set_append_right _ _ (by rw [List.length_append,List.length_replicate,List.length_take];omega),List.length_append,List.length_replicate,List.length_take,show 8+k-(8+min k slot.length)=0 by omega,e,aC slot 0 k hk]
 simp [List.replicate_succ]
def sT (n g:Nat)(slot:List UInt8)(k:Nat):List UInt8:=(aW (cz g 4)).take k++(al n 0 slot).drop k
theorem cg (g:Nat):(aW (cz g 4)).length=8:=by rw [dg,cJ]
theorem B3 {n g:Nat}{slot:List UInt8}(hg:0<g):sT n g slot 8=al n (g:Int) slot:=by
 unfold sT;rw [List.take_of_length_le (by rw [cg];exact Nat.le_refl _),wO hg]
theorem sS {n g k:Nat}{slot:List UInt8}(hk:k≤8)(h:8+slot.length≤n):(sT n g slot k).length=n:=by
 unfold sT;rw [List.length_append,List.length_take,cg,List.length_drop,cf h]
 omega
theorem B2 {n g k:Nat}{slot:List UInt8}(hk:k<8)(h:8+slot.length≤n):(sT n g slot k).set k ((aW (cz g 4)).getD k 0)=sT n g slot (k+1):=by
 unfold sT;have hc:=cg g;have hl:=cf (gen:=0) h;rw [List.set_append_right _ _ Oq,List.length_take,show k-min k (aW (cz g 4)).length=0 by omega,List.drop_eq_getElem_cons oe,List.set_cons_zero,aC (aW (cz g 4)) 0 k oe]
 simp
theorem Io (row:List UInt8): -1≤l4 row∧l4 row<4294967296:=by
 unfold l4
 split
 ·have:=tC (cr row 4);rw [cn] at this
  omega
 omega
theorem Aq (f:Fl)(a b:Int):(ax f a b).gen=l4 (av f (ax f a b).sec):=oaW
structure JFnd (f:Fl)(a b:Int)(x:Lg):Prop where
  fits:cN f a b=true
  gen:0≤x.gen∧x.gen<4294967296
  sec:0≤x.sec∧x.sec<(f.data.length:Int)
  oth:0≤x.oth∧x.oth<(f.data.length:Int)
  free:x.free≤bC f
  torn:x.torn≤bC f
theorem BN {f:Fl}{a b:Int}(h:(aY f a b).found=true):JFnd f a b (aY f a b):=by
 unfold aY at h ⊢
 split
 ·rename_i h1;rw [if_pos h1] at h
  split
  ·rename_i h2;rw [if_pos h2,eN] at h
   cases h
  rename_i h2;have hk:=iO (av f (ax f a b).sec) (ax f a b) (bC f);have hs:=rS h1;have hg:=Io (av f (ax f a b).sec);rw [← Aq] at hg;have hf:=iP (row:=av f (ax f a b).sec) (x:=ax f a b) fR.1 fR.2 (bC f);exact ⟨h1,by rw [hk.2.2];omega,by rw [hk.1];exact ⟨hs.1,hs.2.1⟩,by rw [hk.2.1];exact ⟨hs.2.2.1,hs.2.2.2⟩,hf.1,hf.2⟩
 rename_i h1;rw [if_neg h1] at h
 cases h
section
variable {f:Fl}{a b:Int}{s:List Int}{x:Lg}
theorem nR (h:(aY f a b).found=false∨aN s=false):aO f a b s=⟨fo0,false,200⟩:=if_pos h
theorem HP (hx:x=aY f a b)(h1:x.found=true)(h2:aN s=true)(h3:x.s=s):aO f a b s=⟨fo0,true,0⟩:=by
 subst hx
 unfold aO;rw [if_neg (by rw [h1,h2];exact fun h=>by rcases h with h|h<;>cases h),if_pos h3]
theorem AK (hx:x=aY f a b)(h1:x.found=true)(h2:aN s=true)(h3:x.s≠s)(h4:x.free<bC f):aO f a b s=ec f ⟨2,x.sec,8+30*(x.free:Int),ak s⟩:=by
 subst hx
 unfold aO;rw [if_neg (by rw [h1,h2];exact fun h=>by rcases h with h|h<;>cases h),if_neg h3,if_pos h4]
theorem AJ (hx:x=aY f a b)(h1:x.found=true)(h2:aN s=true)(h3:x.s≠s)(h4:¬x.free<bC f)(h5:dm (av f x.oth) (al f.size (x.gen+1) (ak s))=true):aO f a b s=ec f ⟨2,x.oth,0,(al f.size (x.gen+1) (ak s)).take 8⟩:=by
 subst hx
 unfold aO;rw [if_neg (by rw [h1,h2];exact fun h=>by rcases h with h|h<;>cases h),if_neg h3,if_neg h4,if_pos h5]
theorem AI (hx:x=aY f a b)(h1:x.found=true)(h2:aN s=true)(h3:x.s≠s)(h4:¬x.free<bC f)(h5:dm (av f x.oth) (al f.size (x.gen+1) (ak s))=false):aO f a b s=aM f x.oth (al f.size 0 (ak s)):=by
 subst hx
 unfold aO;rw [if_neg (by rw [h1,h2];exact fun h=>by rcases h with h|h<;>cases h),if_neg h3,if_neg h4,if_neg (by rw [h5];exact Bool.false_ne_true)]
theorem sG (h:cN f a b=false∨aN s=false):b9 f a b s=(flz,200):=if_pos h
theorem BC {g:Fl}{e:Int}(h1:cN f a b=true)(h2:aN s=true)(hr:aq a (al f.size 1 (ak s)) 3 f=(g,e))(he:e≠0):b9 f a b s=(flz,e):=by
 unfold b9;rw [if_neg (by rw [h1,h2];exact fun h=>by rcases h with h|h<;>cases h),hr,if_pos he]
theorem BB {g h:Fl}{e:Int}(h1:cN f a b=true)(h2:aN s=true)(hr:aq a (al f.size 1 (ak s)) 3 f=(g,0))(hq:aq b (al f.size 0 []) 3 g=(h,e))(he:e≠0):b9 f a b s=(flz,e):=by
 unfold b9;rw [if_neg (by rw [h1,h2];exact fun h=>by rcases h with h|h<;>cases h),hr]
 simp only [ne_eq,not_true_eq_false,if_false,hq];rw [if_pos he]
theorem sE {g h:Fl}(h1:cN f a b=true)(h2:aN s=true)(hr:aq a (al f.size 1 (ak s)) 3 f=(g,0))(hq:aq b (al f.size 0 []) 3 g=(h,0)):b9 f a b s=(h,0):=by
 unfold b9;rw [if_neg (by rw [h1,h2];exact fun h=>by rcases h with h|h<;>cases h),hr]
 simp only [ne_eq,not_true_eq_false,if_false,hq]
end
section
variable {f:Fl}{sec:Int}{want:List UInt8}
theorem c6 (f:Fl)(sec:Int)(want:List UInt8):(bQ f sec want).sec=sec:=by unfold bQ;split<;>rfl
theorem eF (hs:0≤sec∧sec<(f.data.length:Int))(hw:want.length=f.size)(hd:(aM f sec want).done=true):av f sec=want:=by
 apply Y 0x510f;intro hin
 by_cases h2:f.data.getD sec.toNat []=want
 ·exact h2
 by_cases h3:ao f (bQ f sec want)≠0
 ·rw [kg hin h2 rfl h3] at hd
  cases hd
 rw [gR hin h2 rfl h3] at hd
 cases hd
theorem yD (hs:0≤sec∧sec<(f.data.length:Int))(hw:want.length=f.size)(hd:¬((aM f sec want).done=true∨(aM f sec want).e≠0)):av f sec≠want∧(aM f sec want).x=bQ f sec want∧ao f (bQ f sec want)=0:=by
 apply Y 0x510f;intro hin
 by_cases h2:f.data.getD sec.toNat []=want
 ·rw [mh hin h2] at hd
  exact absurd (.inl rfl) hd
 by_cases h3:ao f (bQ f sec want)≠0
 ·rw [kg hin h2 rfl h3] at hd
  exact absurd (.inr h3) hd
 exact ⟨h2,by rw [gR hin h2 rfl h3],by simpa using h3⟩
theorem u2 (hs:0≤sec∧sec<(f.data.length:Int))(hw:want.length=f.size)(hb:gq (av f sec) want f.size=true)(hx:bQ f sec want=⟨2,sec,0,want⟩):av (dw f (bQ f sec want) (fun _=>255)) sec=want:=by
 have e:av (dw f (bQ f sec want) (fun _=>255)) sec=ji f (bQ f sec want) (fun _=>255):=by
  have:=n6 (f:=f) (x:=bQ f sec want) (mk:=fun _=>255) (by rw [c6];omega);rw [c6] at this
  exact this
 rw [e,hx];refine aF (d:=0) (by rw [cu,hw]) fun i hi=>?_
 rw [cu] at hi;rw [gW hi,F1,lG oa6 ou];have h:=List.all_eq_true.1 hb i (List.mem_range.2 hi);have h0:want.getD i 0&&& ~~~((av f sec).getD i 0)=0:=qi
 show (av f sec).getD i 0&&&want.getD ((i:Int)-0).toNat 0=want.getD i 0;rw [show ((i:Int)-0).toNat=i from by omega]
 exact (dQ _ _).2 h0
theorem ke (hs:0≤sec∧sec<(f.data.length:Int))(hx:bQ f sec want=⟨1,sec,0,[]⟩):av (dw f (bQ f sec want) (fun _=>255)) sec=List.replicate f.size 255:=by
 have e:av (dw f (bQ f sec want) (fun _=>255)) sec=ji f (bQ f sec want) (fun _=>255):=by
  have:=n6 (f:=f) (x:=bQ f sec want) (mk:=fun _=>255) (by rw [c6];omega);rw [c6] at this
  exact this
 rw [e,hx];refine aF (d:=0) (by rw [cu,List.length_replicate]) fun i hi=>?_
 rw [cu] at hi;rw [gW hi,F1,w8 rfl,bO _ _ _ _ hi]
theorem td (want:List UInt8)(n:Nat):gq (List.replicate n 255) want n=true:=by
 refine List.all_eq_true.2 fun i hi=>?_
 rw [bO _ _ _ _ (List.mem_range.1 hi)];have:want.getD i 0&&& ~~~(255:UInt8)=0:=by
  rw [show ~~~(255:UInt8)=0 from rfl]
  exact Cy _
 rw [this]
 rfl
def tMu (f:Fl)(sec:Int)(want:List UInt8):Nat:=if av f sec=want then 0 else if gq (av f sec) want f.size=true then 1 else 2
theorem gT (f:Fl)(sec:Int)(want:List UInt8):tMu f sec want≤2:=by unfold tMu;split;exact Nat.zero_le _;split<;>decide
theorem m6 (hs:0≤sec∧sec<(f.data.length:Int))(hw:want.length=f.size)(hd:¬((aM f sec want).done=true∨(aM f sec want).e≠0)):tMu (aS f (aM f sec want).x (fun _=>255)) sec want<tMu f sec want:=by
 obtain ⟨h1,h2,h3⟩:=yD hs hw hd;rw [h2,bz h3]
 unfold tMu;rw [if_neg h1]
 by_cases hb:gq (av f sec) want f.size=true
 ·rw [if_pos hb,if_pos (u2 hs hw hb (fq hb))]
  decide
 rw [if_neg hb];have e:=ke (want:=want) hs (fo (show gq (av f sec) want f.size=false by simpa using hb))
 split
 ·decide
 rw [e];have:(dw f (bQ f sec want) (fun _=>255)).size=f.size:=rfl;rw [this,if_pos (td _ _)]
 decide
theorem kG {k:Nat}(hd:¬((aM f sec want).done=true∨(aM f sec want).e≠0)):aq sec want (k+1) f=aq sec want k (aS f (aM f sec want).x (fun _=>255)):=by
 show (if _ then _ else _)=_;rw [if_neg hd]
theorem kF:∀ (k:Nat) (f:Fl),f.Ok→(0≤sec∧sec<(f.data.length:Int))→want.length=f.size→(aq sec want k f).1.Ok∧(aq sec want k f).1.size=f.size∧(aq sec want k f).1.data.length=f.data.length
  |0,_,ok,_,_=>⟨ok,rfl,rfl⟩
  |k+1,f,ok,hs,hw=>by
    by_cases hd:(aM f sec want).done=true∨(aM f sec want).e≠0
    · have e:aq sec want (k+1) f=(f,(aM f sec want).e):=if_pos hd
      rw [e]
      exact ⟨ok,rfl,rfl⟩
    · have e:aq sec want (k+1) f=aq sec want k (aS f (aM f sec want).x (fun _=>255)):=if_neg hd
      rw [e]
      obtain ⟨_,h2,h3⟩:=yD hs hw hd
      have K:=eB (x:=(aM f sec want).x) ok (by rw [h2];exact h3) (fun _=>255)
      obtain ⟨r1,r2,r3⟩:=kF k _ K.ok (by rw [K.n];exact hs) (by rw [K.s];exact hw)
      exact ⟨r1,r2.trans K.s,r3.trans K.n⟩
theorem iR {k:Nat}(hd:(aM f sec want).done=true∨(aM f sec want).e≠0):aq sec want k f=(f,(aM f sec want).e):=by
 cases k with
 |zero=>rfl
 |succ k=>exact if_pos hd
end
end Go.Sl
namespace Go.Proofs.YtbpddeiogcgegaaGreat
open Go.Sl
theorem vh {n:Nat}{s:List Int}(h:38≤n):8+(ak s).length≤n:=by
 rcases vj s with e|e
 ·omega
 rw [e]
 simp
 omega
theorem rB (x:UInt8)(B:Option Addr)(bc n:Nat)(h1:1≤n)(hn:n≤4096):
    Ctr X 178 [.slice B 1 bc,.int .i64 (n:Int)] [Rd B (U8 [x])] [] (fun v R' H'=>∃ A oc,v=.slice A n n∧R'=[]∧H'=[Own 5 1 A n oc (U8 (List.replicate n x))]):=by
 refine co Tryz.func178 ?_;intro β;apply Zu 0x40e2dda<;>intro
 ·omega
 apply Zu 0x7848aa<;>intro
 ·omega
 apply Y 0xb32f3431f58e8;refine an (J7 n oe) ?_;apply Zu 0x501f6c285529<;>intro
 ·omega
 apply Zu 0x782c<;>intro
 ·omega
 apply Zu 0x40e15828600f48e8<;>intro
 ·omega
 apply Zu 0x78482848e8<;>intro
 ·omega
 apply Y 0x48e8;refine L.makeNoZero (t:=24) (ps:=#[3]) (f:=223) (fn:=Tryz.f223) Tryz.func223 rfl rfl rfl oa rfl rfl rfl rfl oe rfl (fun A c ys hc hy=>?_);apply Y 0x5;refine sp (yh (h:=n) (m:=n) rfl rfl rfl rfl rfl rfl rfl rfl oe oe) ?_;apply Y 0x581;refine L.copy (j:=0) (o:=0) rfl rfl rfl rfl rfl (fun g h _=>h) rfl rfl (Src.r 0 rfl) (by simp [U8];omega) (b4 _) (by rw [aH,aH];simp;omega) rfl ?_;apply Y 0x53e28;refine lp [] [] (fun q:Nat×List UInt8=>[(7,.int .i64 (n:Int)),(8,.int .i64 (n:Int)),(9,.slice A n n),(10,.int .i64 (q.1:Int))]) nz (fun q=>[Own 5 1 A n c (U8 (List.replicate q.1 x++q.2))]) (fun q=>1≤q.1∧q.1≤n∧q.2.length=n-q.1) (fun q=>n-q.1) (1,ys.drop 1) ⟨Nat.le_refl _,h1,by simp [hy]⟩ (by exact lk [] [0] ⟨rfl,rfl,rfl,oU,trivial⟩ (hh:=⟨(congrArg some (ay rfl (by simp [U8]))),trivial⟩)) ?_;apply Y 0xfc1f;intro p ys hp1 hp2 hyl
 dsimp only at hp1 hp2 hyl ⊢;apply Zu 0x78584<;>intro
 ·apply Y 0x5853ee8;refine sp (Ev.cast (u:=.int .i64 (p:Int)) (Ev.pure rfl) (congrArg (Value.int .i64) (if_neg (show ¬ (n:Int)<(p:Int) by omega)))) ?_;apply Y 0xf8e63380f711fb02f680f580f480f170f1;refine sp (br (h:=p) rfl rfl rfl rfl rfl rfl oe) ?_;apply Y 0xa7e6;refine L.copy (j:=0) (o:=p) (xs:=U8 (List.replicate p x++ys)) (ys:=U8 (List.replicate (min p (n-p)) x)) (D:=bF A n p 1) (dn:=n-p) rfl rfl rfl rfl rfl (fun g h _=>yQ (n:=n) (p:=p) h oe) rfl rfl (Src.cast (Src.take (Src.o 0 oU) (min p (n-p))) (nv (p:=p) (k:=min p (n-p)) (ys:=ys) oe)) QN (b4 _) qR oU ?_;apply Y 0xf61f19e6;intro e8;apply Y 0x68e9c7be69b;refine QE.round (i:=(p,ys)) ((p+min p (n-p),ys.drop (min p (n-p)))) qU ou (by exact lk [] [0] ⟨rfl,rfl,rfl,qV,trivial⟩ (hh:=⟨(congrArg some (ay rfl (vy hyl hp2))),trivial⟩))
 apply Y 0x7c69;obtain rfl:p=n:=oe;obtain rfl:ys=[]:=List.eq_nil_of_length_eq_zero oe;apply Y 0x20e;exact ⟨A,c,rfl,rfl,by rw [List.append_nil];rfl⟩
theorem uF (n g:Nat)(A:Option Addr)(c:Nat)(slot:List UInt8)(hn:n≤4096)(hs:8+slot.length≤n):
    Ctr X 112 [.int .i64 (n:Int),.int .i64 (g:Int),.slice A slot.length c] [Rd A (U8 slot)] [] (fun v R' H'=>∃ O oc,v=.slice O n n∧R'=[]∧H'=[Own 5 1 O n oc (U8 (al n (g:Int) slot))]):=by
 refine co Tryz.func112 ?_;intro β;apply Y 0x7a212;intro A9;apply Y 0xa20f3;refine an (rB 255 _ _ n oe hn) ?_;apply Y 0x89;intro O oc;apply Y 0x481;refine sp (bx (l:=8) rfl rfl rfl rfl rfl rfl oe) ?_;apply Y 0x3;refine L.copy (j:=0) (o:=8) (xs:=U8 (List.replicate n 255)) (ys:=U8 slot) (D:=bF O n 8 1) (dn:=n-8) rfl rfl rfl rfl rfl (fun g h hp=>yQ (n:=n) (p:=8) h (by rw [aH] at hp;omega)) rfl rfl (Src.r 1 rfl) oO (b4 _) (by rw [aH,aH,List.length_replicate];omega) rfl ?_;rw [E3 hs];apply Zu 0x78487b<;>intro
 ·apply Y 0xdd8c;intro A19;apply Y 0x28;refine jt 5 1 ?_;apply Y 0x3b;refine L.call (js:=[1,2]) (js':=[0]) (JP A19 none [] 0 g 4 ob ob) rfl rfl rfl ob trivial rfl ?_;apply Y 0x89;intro A' c';rw [show ([]++aW (cz g 4):List UInt8)=aW (cz g 4) from rfl];apply Y 0x94e994c3bf8;refine L.copy (j:=2) (o:=0) (xs:=U8 (al n 0 slot)) (ys:=U8 (aW (cz g 4))) (D:=O) (dn:=n) rfl rfl rfl rfl rfl (fun g h _=>h) rfl rfl (Src.o 1 rfl) (by rw [aH,cg];omega) (b4 _) (by rw [aH,aH,cg,cf hs];omega) rfl ?_;rw [EZ oe];apply Y 0x7cf8;refine qrt [] [2] [_] rfl rt ?_;exact Zm 0xc60f
 apply Y 0x20e7ce8;obtain rfl:g=0:=oe;exact Zm 0xc60f
theorem B1 (n g:Nat)(s:List Int)(hn:n≤4096)(hs:38≤n):
    Ctr X 57 [.int .i64 (n:Int),.int .i64 (g:Int),.agg (List.toArray (st9 s))] [] [] (fun v R' H'=>∃ O,v=.slice O n n∧R'=[]∧H'=[Own 5 1 O n n (U8 (al n (g:Int) (ak s)))]):=by
 have hsl:=vh (s:=s) hs;refine co Tryz.func57 ?_;intro β;apply Y 0x2a;intro A5;apply Y 0x8a15e28;refine an (Co n oe) ?_;apply Y 0x21e;intro A13;apply Y 0xe2e21;refine an (G5 s) ?_;apply Y 0x89;intro SO sc;apply Y 0x19228;refine lp [0,1,7,8] [_,_,_,_] (fun k:Nat=>[(9,.int .i64 (k:Int))]) (kz [_]) (fun k=>[Own 5 1 A13 n n (U8 (l9 n (ak s) k)),Own 5 1 SO (ak s).length sc (U8 (ak s))]) (fun k=>k≤(ak s).length) (fun k=>(ak s).length-k) 0 (Nat.zero_le _) (by exact lk [0] [1,0] (hh:=⟨(by rw [mM oe];rfl),rfl,trivial⟩)) ?_;intro k hk;apply Zu 0x786c4<;>intro
 ·apply Y 0x3b49;refine sp (Ev.cast (u:=.int .i64 ((8+k:Nat):Int)) (Ev.add rfl rfl oe oe) (congrArg (Value.int .i64) oe)) ?_;apply Y 0x5;refine sp (ae (k:=k) rfl rfl rfl rfl rfl rfl rfl oe (Src.o 1 rfl) oO) ?_;refine sp (Ev.load rfl rfl rfl (Src.o 1 rfl) (bE oe)) ?_;refine sp (ae (k:=(8+k)) rfl rfl rfl rfl rfl rfl rfl oe (Src.o 0 rfl) (by rw [aH,sU oe hsl];omega)) ?_;refine L.store (j:=0) rfl rfl rfl rfl rfl rfl rfl (by exact bE (by rw [sU oe hsl];omega)) ?_;apply Y 0x3a50e;refine QE.round (k+1) oe oe (by exact lk [0] [0,1] (hh:=⟨(by rw [← B4 oe hsl,← lO];rfl),rfl,trivial⟩))
 apply Y 0x4869;refine an (ek g 4 ob) ?_;apply Y 0x89;intro NO nc;refine an (Ce NO nc (cz g 4) (by rw [cJ];decide)) ?_;apply Y 0x89;intro CO cc;apply Y 0x19228;obtain rfl:k=(ak s).length:=oe;rw [sV];refine lp [1,7,10] [_,_,_] (fun k:Nat=>[(11,.int .i64 (k:Int))]) (kz [_]) (fun k=>[Own 5 1 A13 n n (U8 (sT n g (ak s) k)),Own 5 1 CO (aW (cz g 4)).length cc (U8 (aW (cz g 4)))]) (fun k=>k≤8∧(k=0∨0<g)) (fun k=>8-k) 0 ⟨Nat.zero_le _,.inl rfl⟩ (lk [0] [2,0]) ?_;apply Y 0xf0e;intro k hk hg;apply Zu 0x820f6c4<;>intro
 ·apply Zu 0x782c<;>intro
  ·apply Y 0x53b49;refine sp (ae (k:=k) rfl rfl rfl rfl rfl rfl rfl (by rw [cg];omega) (Src.o 1 rfl) (by rw [aH,cg];omega)) ?_;refine sp (Ev.load rfl rfl rfl (Src.o 1 rfl) (bE (by rw [cg];omega))) ?_;refine sp (ae (k:=k) rfl rfl rfl rfl rfl rfl rfl oe (Src.o 0 rfl) (by rw [aH,sS oe hsl];omega)) ?_;refine L.store (j:=0) rfl rfl rfl rfl rfl rfl rfl (by exact bE (by rw [sS oe hsl];omega)) ?_;apply Y 0x3a50e;refine QE.round (k+1) (by exact ⟨by omega,.inr oe⟩) oe (by exact lk [0] [0,1] (hh:=⟨(by rw [← B2 oe hsl,← lO];rfl),rfl,trivial⟩))
  apply Y 0x20e7c69;obtain rfl:g=0:=oe;obtain rfl:k=0:=oe;exact ⟨A13,rfl,rfl,rfl⟩
 apply Y 0x1bc;refine C.cond rfl (fun h=>by cases h) (fun _=>?_);apply Y 0x20e7c69;obtain rfl:k=8:=oe;rw [B3 oe];exact ⟨A13,rfl,rfl,rfl⟩
theorem IR (A W:Option Addr)(c wc:Nat)(b w:List UInt8)(hl:w.length≤b.length)(hw:w.length≤4096):
    Ctr X 114 [.slice A b.length c,.slice W w.length wc] [Rd A (U8 b),Rd W (U8 w)] [] (fun v R' H'=>v=.bool (bL b w w.length)∧R'=[]∧H'=[]):=by
 refine co Tryz.func114 ?_;intro β;apply Y 0x1958da;refine lp [0,7,8] [_,_,_] (fun k:Nat=>[(9,.int .i64 (k:Int))]) (kz [_,_]) nz (fun k=>k≤w.length∧bL b w k=true) (fun k=>w.length-k) 0 ⟨Nat.zero_le _,rfl⟩ (lk [0,1] []) ?_;apply Y 0xf0e;intro k hk ha;apply Zu 0x1cda<;>intro
 ·apply Y 0x4849;refine sp (ae (k:=k) rfl rfl rfl rfl rfl rfl rfl oe (Src.r 1 rfl) oO) ?_;apply Zu 0x5d13efe3bbe952f58131a0f<;>intro hc21
  ·have hno:=yg (b:=b) (w:=w) (k:=k) (n:=w.length) oe (fun h=>hc21 (e9.2 h));apply Y 0x4babf9;rw [hno];exact Zm 0xd1e
  apply Y 0x6dd9;refine QE.round (k+1) (by exact ⟨by omega,by rw [fH,ha,Bool.true_and,beq_iff_eq];exact e9.1 hc21⟩) oe (lk [0,1] [])
 apply Y 0x39f969;obtain rfl:k=w.length:=oe;rw [ha];exact Zm 0xd1e
theorem Aj (f:Fl)(a:Fa)(ok:f.Ok)(_hh:a.hs.length=f.data.length)(sec at_:Int)(d:List UInt8)(A:Option Addr)(c:Nat)(hsec:0≤sec∧sec<(f.data.length:Int)):
    Ctr X 111 [flV f a,.int .i64 sec,.int .i64 at_,.slice A d.length c] (flR f a++[Rd A (U8 d)]) [] (fun v R' H'=>∃ O oc,v=.tuple #[.agg (List.toArray [.int .i64 (ec f ⟨2,sec,at_,d⟩).x.kind,.int .i64 (ec f ⟨2,sec,at_,d⟩).x.sec,.int .i64 (ec f ⟨2,sec,at_,d⟩).x.at_,.slice O (ec f ⟨2,sec,at_,d⟩).x.data.length oc]),.bool (ec f ⟨2,sec,at_,d⟩).done,.int .i64 (ec f ⟨2,sec,at_,d⟩).e]∧R'=[Rd O (U8 (ec f ⟨2,sec,at_,d⟩).x.data)]∧H'=[]):=by
 obtain ⟨os1,os2,on1,on2,owl,odl,orows,ol1,ol2,owear⟩:=ok;refine co Tryz.func111 ?_;intro β;apply Y 0x2a;intro A4;apply Y 0x88;intro A8;apply Y 0x3d8688d4283;refine sp (ae (k:=sec.toNat) rfl rfl rfl rfl rfl rfl oe oe (Src.r 4 rfl) qN) ?_;refine sp (Ev.load rfl rfl rfl (Src.r 4 rfl) (m0 oe)) ?_;apply Zu 0xe9f8<;>intro hc15
 ·have hd:f.dead.getD (Fo.mk 2 sec at_ d).sec.toNat false=true:=hc15;apply Zu 0x13e24e80e4a3598c
  ·unfold ec;rw [if_pos hd]
   rfl
  unfold ec;rw [if_pos hd]
  rfl
 have hd:¬ f.dead.getD (Fo.mk 2 sec at_ d).sec.toNat false=true:=by rw [show (Fo.mk 2 sec at_ d).sec=sec from rfl,hc15];exact Bool.false_ne_true
 apply Y 0xbb59ca6ce8;refine qrt [5] [] [_,_,_] rfl ⟨⟨_,_,0,_,rfl,rfl,Src.o 0 rfl,.inl ⟨rfl,by decide,_,rfl,rfl,rfl⟩⟩,rfl,rfl,trivial⟩ ?_;refine ⟨A,c,?_,?_,rfl⟩
 ·unfold ec;rw [if_neg hd]
  rfl
 unfold ec;rw [if_neg hd]
 rfl
theorem zT {n:Nat}(x:UInt8)(_h:1≤n):(List.replicate n (Value.int .u8 0)).take 0++U8 [x]++(List.replicate n (Value.int .u8 0)).drop (0+(U8 [x]).length)=U8 (List.replicate 1 x++List.replicate (n-1) 0):=by
 rw [← cy,List.take_zero,List.nil_append,List.drop_replicate]
 congr 1
 simp [U8]
theorem Pu (b:List UInt8)(a S:Nat):(U8 (List.replicate S 255)).take 0++U8 ((b.drop (min a b.length)).take (min (b.length-min a b.length) S))++(U8 (List.replicate S 255)).drop (0+(U8 ((b.drop (min a b.length)).take (min (b.length-min a b.length) S))).length)=U8 (ctK b a S):=by
 rw [← Iz,← cy,List.take_zero,List.nil_append,jg,List.drop_replicate,aH,List.length_take,List.length_drop]
 congr 3
 omega
theorem uI (SA SB:Option Addr)(a b:List UInt8)(ca cb n m:Nat)(ha:a.length=n)(hb:b.length=m)(hab:a.length=b.length)(hal:a.length≤100000):
    Ctr X 135 [.slice SA n ca,.slice SB m cb] [Rd SA (U8 a),Rd SB (U8 b)] [] (fun v R' H'=>∃ (O:Option Addr) (c:Nat),v=.slice O (aA a b a.length).length c∧R'=[]∧H'=[Own 223 2 O (aA a b a.length).length c (bD (aA a b a.length))]):=by
 subst ha hb
 exact uJ SA SB a b ca cb hab hal
theorem Ci (SA SB:Option Addr)(a b:List UInt8)(ca cb n m:Nat)(ha:a.length=n)(hb:b.length=m)(hab:a.length=b.length)(hal:a.length≤100000):
    Ctr X 226 [.slice SA n ca,.slice SB m cb] [Rd SA (U8 a),Rd SB (U8 b)] [] (fun v R' H'=>∃ (O:Option Addr) (c:Nat),v=.slice O (aA a b a.length).length c∧R'=[]∧H'=[Own 223 2 O (aA a b a.length).length c (bD (aA a b a.length))]):=by
 subst ha hb
 exact s6 SA SB a b ca cb hab hal
theorem zS (x:UInt8)(B:Option Addr)(bc n:Nat)(h1:1≤n)(hn:n≤4096):
    Ctr X 257 [.slice B 1 bc,.int .i64 (n:Int)] [Rd B (U8 [x])] [] (fun v R' H'=>∃ A,v=.slice A n n∧R'=[]∧H'=[Own 5 1 A n n (U8 (List.replicate n x))]):=by
 refine co Tryz.func257 ?_;intro β;apply Zu 0x7848da<;>intro
 ·omega
 apply Y 0xb32f3431f58e8;refine an (J7 n oe) ?_;apply Zu 0x7f1f6c285529<;>intro
 ·omega
 apply Zu 0x782c<;>intro
 ·omega
 apply Y 0x600f48e8;refine mU (m:=n) rfl rfl rfl rfl rfl rfl rfl rfl rfl QX oe rfl (fun A30=>?_);apply Y 0x581;refine L.copy (j:=0) (o:=0) rfl rfl rfl rfl rfl (fun g h _=>h) rfl rfl (Src.r 0 rfl) (by simp [U8];omega) (b4 _) (by rw [aH,List.length_replicate];simp;omega) rfl ?_;apply Y 0x53e28;refine lp [] [] (fun q:Nat×List UInt8=>[(7,.slice A30 n n),(8,.int .i64 (q.1:Int))]) nz (fun q=>[Own 5 1 A30 n n (U8 (List.replicate q.1 x++q.2))]) (fun q=>1≤q.1∧q.1≤n∧q.2.length=n-q.1) (fun q=>n-q.1) (1,List.replicate (n-1) 0) ⟨Nat.le_refl _,h1,by simp⟩ (by exact lk [] [0] ⟨rfl,oU,trivial⟩ (hh:=⟨(congrArg some (ay rfl (zT x h1))),trivial⟩)) ?_;apply Y 0xfc1f;intro p ys hp1 hp2 hyl
 dsimp only at hp1 hp2 hyl ⊢;apply Zu 0x786c4<;>intro
 ·apply Y 0xf8e63380f711fb02f680f580f480f170f53ee8;refine sp (br (h:=p) rfl rfl rfl rfl rfl rfl oe) ?_;apply Y 0xa7e6;refine L.copy (j:=0) (o:=p) (xs:=U8 (List.replicate p x++ys)) (ys:=U8 (List.replicate (min p (n-p)) x)) (D:=bF A30 n p 1) (dn:=n-p) rfl rfl rfl rfl rfl (fun g h _=>yQ (n:=n) (p:=p) h oe) rfl rfl (Src.cast (Src.take (Src.o 0 oU) (min p (n-p))) (nv (p:=p) (k:=min p (n-p)) (ys:=ys) oe)) QN (b4 _) qR oU ?_;apply Y 0xf61f19e6;intro e8;apply Y 0x68e9c7be69b;refine QE.round (i:=(p,ys)) ((p+min p (n-p),ys.drop (min p (n-p)))) qU ou (by exact lk [] [0] ⟨rfl,qV,trivial⟩ (hh:=⟨(congrArg some (ay rfl (vy hyl hp2))),trivial⟩))
 apply Y 0x7c69;obtain rfl:p=n:=oe;obtain rfl:ys=[]:=List.eq_nil_of_length_eq_zero oe;apply Y 0x20e;exact ⟨A30,rfl,rfl,by rw [List.append_nil];rfl⟩
theorem iX (BA:Option Addr)(b:List UInt8)(bc t S:Nat)(_hbl:b.length≤1000000)(hts:t*S≤1000000)(_ht:t≤1000000)(hS1:1≤S)(hS2:S≤4096)(hbc:b.length≤bc):
    Ctr X 227 [.slice BA b.length bc,.int .i64 (t:Int),.int .i64 (S:Int)] [Rd BA (U8 b)] [] (fun v R' H'=>∃ A,v=.slice A S S∧R'=[]∧H'=[Own 5 1 A S S (U8 (ctF b t S))]):=by
 refine co Tryz.func227 ?_;intro β;apply Y 0xc40f;intro m1;apply Y 0x7a212;intro A8;apply Y 0xa20f3;refine an (zS 255 _ _ S hS1 hS2) ?_;apply Y 0x21e;intro A10;apply Y 0x5a90f5581;refine sp (Ev.cast (u:=.int .i64 (((min (t*S) b.length):Nat):Int)) (Ev.cast (u:=.int .i64 (min ((t*S:Nat):Int) (b.length:Int))) (Ev.pure rfl) (congrArg (Value.int .i64) Qc)) (congrArg (Value.int .i64) oe)) ?_;refine sp (bx (l:=(min (t*S) b.length)) rfl rfl rfl rfl rfl rfl oe) ?_;refine L.copy (j:=0) (o:=0) (xs:=U8 (List.replicate S 255)) (ys:=U8 ((b.drop (min (t*S) b.length)).take (min (b.length-(min (t*S) b.length)) S))) (D:=A10) (dn:=S) rfl rfl rfl rfl rfl (fun g h _=>h) rfl rfl (Src.cast (Src.take (Src.sub (Src.r 1 rfl) bc (min (t*S) b.length) 1 oO) (min (b.length-(min (t*S) b.length)) S)) oar) (by rw [aH,List.length_take,List.length_drop];omega) (b4 _) (by rw [aH,aH,List.length_take,List.length_drop,List.length_replicate];omega) rfl ?_;apply Y 0x20e7cf8;exact ⟨A10,rfl,rfl,congrArg (fun z=>[Own 5 1 A10 S S z]) (Pu b (t*S) S)⟩
theorem eU (BA:Option Addr)(b:List UInt8)(bc t S:Nat)(hbl:b.length≤1000000)(hts:t*S≤1000000)(ht:t≤1000000)(hS1:1≤S)(hS2:S≤4096):
    Ctr X 27 [.slice BA b.length bc,.int .i64 (t:Int),.int .i64 (S:Int)] [Rd BA (U8 b)] [] (fun v R' H'=>∃ (A:Option Addr) (c:Nat),v=.slice A S c∧R'=[]∧H'=[Own 5 1 A S c (U8 (ctF b t S))]):=by
 refine co Tryz.func27 ?_;intro β;apply Y 0xc40f;intro m1;apply Y 0x9b0f;intro m2;apply Y 0xb40f;intro hb2;apply Y 0x870f212;intro A10;apply Y 0x19a90f5828;refine lp [] [] (fun q:Nat×Option Addr×Nat=>[(0,.slice BA b.length bc),(1,.int .i64 (t:Int)),(2,.int .i64 (S:Int)),(8,.int .i64 ((t*S+q.1:Nat):Int)),(7,.slice q.2.1 (ctK b (t*S) q.1).length q.2.2)]) (kz [_]) (fun q=>[Own 5 1 q.2.1 (ctK b (t*S) q.1).length q.2.2 (U8 (ctK b (t*S) q.1))]) (fun q=>q.1≤S) (fun q=>S-q.1) (0,A10,0) (Nat.zero_le _) (lk [0] [0]) ?_;apply Y 0xb1e;intro j A c hj
 dsimp only at hj ⊢;apply Zu 0x78631f3731f584<;>intro
 ·apply Y 0x1249;refine jr (fun z:UInt8=>[(0,.slice BA b.length bc),(1,.int .i64 (t:Int)),(2,.int .i64 (S:Int)),(8,.int .i64 ((t*S+j:Nat):Int)),(7,.slice A (ctK b (t*S) j).length c),(9,.int .u8 (z.toNat:Int))]) (fun z:UInt8=>[Rd BA (U8 b)]) (fun z:UInt8=>[Own 5 1 A (ctK b (t*S) j).length c (U8 (ctK b (t*S) j))]) (fun z:UInt8=>z=ctB b (t*S+j)) ?_ ?_
  ·apply Zu 0x786c<;>intro
   ·apply Y 0x3b;refine sp (ae (k:=t*S+j) rfl rfl rfl rfl rfl rfl rfl oe (Src.r 0 rfl) oO) ?_;apply Y 0x90ebbe;refine QE.join (b.getD (t*S+j) 0) (by unfold ctB;rw [if_pos oe]) (lk [0] [0])
   apply Y 0xd9;refine QE.join (255) (by unfold ctB;rw [if_neg oe]) (lk [0] [0])
  intro z hz;have hcl:=lu b (t*S) j;apply Y 0x7a3b;intro A32;refine L.append (j:=0) rfl rfl rfl rfl ob rfl rfl rfl rfl (Src.o 1 rfl) rfl (eZ rfl) (by rw [lu];omega) oM rfl (fun A33 cc33=>?_);apply Y 0x3a90e;have he:=EX b (t*S) j;rw [← hz] at he;have hel:(ctK b (t*S) (j+1)).length=(ctK b (t*S) j).length+1:=qf;refine QE.round (i:=(j,A,c)) ((j+1,A33,cc33)) ou ou (by exact lk [0] [0] ⟨rfl,rfl,rfl,rfl,qL,trivial⟩ (hh:=⟨(congrArg some (ay hel.symm QK)),trivial⟩))
 apply Y 0x20e7c69;obtain rfl:j=S:=oe;have hl:=lu b (t*j) j;exact ⟨A,c,by show Value.slice A _ c=_;rw [hl],rfl,by show [Own 5 1 A _ c _]=_;rw [hl];rfl⟩
theorem zY (SA SB:Option Addr)(a b:List UInt8)(ca cb n m:Nat)(ha:a.length=n)(hb:b.length=m)(hab:a.length=b.length)(hal:a.length≤100000):
    Ctr X 81 [.slice SA n ca,.slice SB m cb] [Rd SA (U8 a),Rd SB (U8 b)] [] (fun v R' H'=>v=.int .i64 ((Hw a b:Nat):Int)∧R'=[]∧H'=[]):=by
 refine co Tryz.func81 ?_;intro β;apply Y 0x850f;intro hcl;have htt:=nS a b a.length;apply Y 0x581212;refine an (uI SA SB a b ca cb n m ha hb hab hal) ?_;apply Y 0x89;intro O oc;apply Y 0x19fb4283c;refine lp [] [] (fun k:Nat=>[(6,.slice O (aA a b a.length).length oc),(7,.int .i64 (k:Int)),(5,.int .i64 ((5+ndS ((aA a b a.length).take k):Nat):Int))]) (kz [_]) nz (fun k=>k≤(aA a b a.length).length) (fun k=>(aA a b a.length).length-k) 0 (Nat.zero_le _) (lk [0] []) ?_;intro k hk;apply Zu 0x786c4<;>intro
 ·apply Y 0x49;have hr:=iv (a:=a) (b:=b) (k:=a.length) (i:=k) oe;have hsu:=vY (aA a b a.length) (k:=k) oe;have htk:=vX (aA a b a.length) k;apply Y 0x182f582fa9b93d;refine sq (Ev.load rfl rfl rfl (Src.r 0 rfl) (eM (aA a b a.length) k 1 oe ob)) ?_;apply Y 0x182f582fb98de;refine sq (Ev.load rfl rfl rfl (Src.r 0 rfl) (eM (aA a b a.length) k 0 oe ob)) ?_;refine sq (Ev.sub rfl rfl oe oe) ?_;apply Y 0x3ae02fa98de;refine QE.round (k+1) oe oe (by exact lk [0] [] ⟨rfl,rfl,(congrArg some (congrArg (Value.int .i64) (by show (_:Int)+((4+(((aA a b a.length).getD k (0,0)).2:Int))-(((aA a b a.length).getD k (0,0)).1:Int))=_;omega))),trivial⟩)
 apply Y 0x397c69;obtain rfl:k=(aA a b a.length).length:=oe;refine ⟨congrArg (fun z:Nat=>Value.int .i64 (z:Int)) ?_,rfl,rfl⟩;apply Y 0xe4e
 rfl
theorem JE (B SA:Option Addr)(old:List UInt8)(l:List Sy)(bc sc:Nat)(hbl:old.length≤1000000)(hl:l.length≤1000000)(hok:zB old l):
    Ctr X 85 [.slice B old.length bc,.slice SA l.length sc] [Rd B (U8 old),Rd SA (dh l)] [] (fun v R' H'=>∃ (A:Option Addr) (c:Nat),v=.tuple #[.slice A (a7 old l).length c,.int .i64 0]∧R'=[]∧H'=[Own 5 1 A (a7 old l).length c (U8 (a7 old l))]):=by
 refine co Tryz.func85 ?_;intro β;apply Y 0x870f22d;intro A9;apply Y 0x19228;refine lp [] [] (fun q:Nat×Option Addr×Nat=>[(0,.slice B old.length bc),(1,.slice SA l.length sc),(7,.int .i64 (q.1:Int)),(6,.slice q.2.1 (a7 old (l.take q.1)).length q.2.2)]) (kz [_,_]) (fun q=>[Own 5 1 q.2.1 (a7 old (l.take q.1)).length q.2.2 (U8 (a7 old (l.take q.1)))]) (fun q=>q.1≤l.length) (fun q=>l.length-q.1) (0,A9,0) (Nat.zero_le _) (lk [0,1] [0]) ?_;apply Y 0xb1e;intro i A c hi
 dsimp only at hi ⊢;have hrl:(a7 old (l.take i)).length=i:=oa9;apply Zu 0x786c4<;>intro
 ·apply Y 0xc90ff30f5849;refine sp (Ev.load rfl rfl rfl (Src.r 1 rfl) ((ft (i:=i) (j:=2) oe ob).trans rfl)) ?_;apply Y 0x1;refine jr (fun z:UInt8=>[(0,.slice B old.length bc),(1,.slice SA l.length sc),(7,.int .i64 (i:Int)),(6,.slice A (a7 old (l.take i)).length c),(8,.int .u8 (z.toNat:Int))]) (fun z:UInt8=>[Rd B (U8 old),Rd SA (dh l)]) (fun z:UInt8=>[Own 5 1 A (a7 old (l.take i)).length c (U8 (a7 old (l.take i)))]) (fun z:UInt8=>z=yl old (l.getD i Sy.zero)) ?_ ?_
  ·apply Y 0xc90ff30f58;refine sp (Ev.load rfl rfl rfl (Src.r 1 rfl) ((ft (i:=i) (j:=0) oe ob).trans rfl)) ?_;apply Zu 0xe9f8<;>intro hc25
   ·have hat:=hok i oe hc25;apply Y 0xc0e5b62fc90ff30f584;refine an (Kn (l.getD i Sy.zero).at_ 0 ((old.length:Int)-1)) ?_;apply Zu 0xe913c29<;>intro hc35
    ·have h36:=of_decide_eq_false ((Bool.not_eq_true' _).mp hc35)
     omega
    apply Y 0xbbe152fb62fc90ff30f53be8;refine sp (CV rfl rfl) ?_;apply Y 0x90e;refine QE.join (((l.getD i Sy.zero).b+old.getD (l.getD i Sy.zero).at_.toNat 0)) (by unfold yl;rw [if_pos hc25]) (lk [0,1] [0])
   apply Y 0xd9;refine QE.join ((l.getD i Sy.zero).b) (by unfold yl;rw [if_neg (by rw [hc25];decide)]) (lk [0,1] [0])
  intro z hz;apply Y 0x7a3b;intro A48;apply Y 0xde1f;intro A49 cc49;apply Y 0x3a90e;have he:=rj old l (i:=i) oe;rw [← hz] at he;apply Y 0x871f;intro hel;refine QE.round (i:=(i,A,c)) ((i+1,A49,cc49)) ou ou (by exact lk [0,1] [0] ⟨rfl,rfl,rfl,qL,trivial⟩ (hh:=⟨(congrArg some (ay hel.symm QK)),trivial⟩))
 apply Y 0x34e5a5869;obtain rfl:i=l.length:=oe;exact Zm 0xd6ee4e
theorem xd (B:Option Addr)(old:List UInt8)(bc:Nat)(lf:Bool)(inn out:Int)(ops:List Po)(OA:Option Addr)(oc:Nat)(hops:ops.length≤9223372036854775807)(hbl:old.length≤1000000)(hlf:lf=false)(hE:cU inn out ops=0)(hin:inn=(old.length:Int)):
    Ctr X 41 [.slice B old.length bc,.agg (List.toArray [.bool lf,.int .i64 inn,.int .i64 out,.slice OA ops.length oc])] [Rd B (U8 old),Rd OA (cv ops)] [] (fun v R' H'=>∃ (A:Option Addr) (c:Nat),v=.tuple #[.slice A (a7 old (syS inn out ops)).length c,.int .i64 0]∧R'=[]∧H'=[Own 5 1 A (a7 old (syS inn out ops)).length c (U8 (a7 old (syS inn out ops)))]):=by
 refine co Tryz.func41 ?_;intro β;have hrun:=xa hE hin;subst hlf;apply Y 0x2a;intro A3;apply Y 0xf5efb283;refine an (gu false inn out ops OA oc hops) ?_;apply Y 0x89;intro SA sc;apply Zu 0x5d18a15e428553c<;>intro hc21
 ·exact absurd hE hc21
 apply Zu 0xe9f86b22848e8<;>intro hc25
 ·cases hc25
 apply Zu 0x5d16b58aa<;>intro
 ·omega
 apply Y 0x58e8;refine an (JE B SA old (syS inn out ops) bc sc hbl hrun.2 hrun.1) ?_;apply Y 0x89;intro YA yc;apply Zu 0xe916b228553c<;>intro hc48
 ·apply Y 0x34e4a58;exact ⟨YA,yc,rfl,rfl,rfl⟩
 cases hc48
end Go.Proofs.YtbpddeiogcgegaaGreat
