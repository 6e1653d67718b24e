/-
  Part of a proof.
-/
import Derived.Test.YtbpddeiogcgegaaGreatVWJoE
set_option maxHeartbeats 0
set_option maxRecDepth 4000
set_option linter.all false
namespace Go.Sl
section
variable {f:Fl}{x:Fo}{mk:Nat→UInt8}
def Phase (k:Nat)(f:Fl)(w:List UInt8):Prop:=
  k=0∨(k=1∧(f.data.getD 0 []=w∨(f.dead.getD 0 false=false∧∀ i,i<f.size→(f.data.getD 0 []).getD i 0=255)))∨(k=2∧f.data.getD 0 []=w)
end
theorem DK {n:Nat}{slot:List UInt8}(h:8+slot.length≤n):(List.replicate n (255:UInt8)).take 8++slot++(List.replicate n 255).drop (8+slot.length)=ao n 0 slot:=by
 unfold ao;rw [if_neg ob,List.take_replicate,List.drop_replicate,Nat.min_eq_left oe,Nat.sub_sub]
theorem DJ {n:Nat}{slot:List UInt8}(h:8+slot.length≤n):(U8 (List.replicate n 255)).take 8++U8 slot++(U8 (List.replicate n 255)).drop (8+(U8 slot).length)=U8 (ao n 0 slot):=by
 rw [bz,aG,hY,b9,b9,DK h]
theorem va {n g:Nat}{slot:List UInt8}(hg:0<g):bt (dd g 4)++(ao n 0 slot).drop 8=ao n (g:Int) slot:=by
 unfold ao;rw [if_neg ob,if_pos oe,List.append_assoc,List.drop_append_of_le_length oS,List.drop_of_length_le oS,List.nil_append,← List.append_assoc,Int.toNat_natCast]
theorem DG {n g:Nat}{slot:List UInt8}(hg:0<g):(U8 (ao n 0 slot)).take 0++U8 (bt (dd g 4))++(U8 (ao n 0 slot)).drop (0+(U8 (bt (dd g 4))).length)=U8 (ao n (g:Int) slot):=by
 rw [List.take_zero,List.nil_append,aG,cQ,dE,hY,b9,va hg]
def kQ (n:Nat)(slot:List UInt8)(k:Nat):List UInt8:=List.replicate 8 255++slot.take k++List.replicate (n-8-k) 255
theorem lC {n:Nat}{slot:List UInt8}(h:8≤n):kQ n slot 0=List.replicate n 255:=by
 unfold kQ;rw [List.take_zero,List.append_nil,List.replicate_append_replicate]
 congr 1;exact Zm 0x18
theorem pL {n:Nat}{slot:List UInt8}:kQ n slot slot.length=ao n 0 slot:=by
 unfold kQ ao;rw [List.take_length,if_neg ob]
theorem pK {n k:Nat}{slot:List UInt8}(hk:k≤slot.length)(h:8+slot.length≤n):(kQ n slot k).length=n:=by
 unfold kQ;rw [List.length_append,List.length_append,List.length_replicate,List.length_take,List.length_replicate];exact Zm 0x18
theorem Av {n k:Nat}{slot:List UInt8}(hk:k<slot.length)(h:8+slot.length≤n):(kQ n slot k).set (8+k) (slot.getD k 0)=kQ n slot (k+1):=by
 unfold kQ;have e:n-8-k=(n-8-(k+1))+1:=oe;rw [List.set_append_right _ _ (by rw [List.length_append,List.length_replicate,List.length_take];omega),List.length_append,List.length_replicate,List.length_take,show 8+k-(8+min k slot.length)=0 by omega,e,aB slot 0 k hk]
 simp [List.replicate_succ]
def pJ (n g:Nat)(slot:List UInt8)(k:Nat):List UInt8:=(bt (dd g 4)).take k++(ao n 0 slot).drop k
theorem cB (g:Nat):(bt (dd g 4)).length=8:=by rw [cQ,dE]
theorem As {n g:Nat}{slot:List UInt8}(hg:0<g):pJ n g slot 8=ao n (g:Int) slot:=by
 unfold pJ;rw [List.take_of_length_le (by rw [cB];exact Nat.le_refl _),va hg]
theorem pI {n g k:Nat}{slot:List UInt8}(hk:k≤8)(h:8+slot.length≤n):(pJ n g slot k).length=n:=by
 unfold pJ;rw [List.length_append,List.length_take,cB,List.length_drop,b7 h];exact Zm 0x18
theorem Aq {n g k:Nat}{slot:List UInt8}(hk:k<8)(h:8+slot.length≤n):(pJ n g slot k).set k ((bt (dd g 4)).getD k 0)=pJ n g slot (k+1):=by
 unfold pJ;have hc:=cB g;have hl:=b7 (gen:=0) h;rw [List.set_append_right _ _ oP,List.length_take,show k-min k (bt (dd g 4)).length=0 by omega,List.drop_eq_getElem_cons oe,List.set_cons_zero,aB (bt (dd g 4)) 0 k oe];exact Zm 0x81e
theorem GZ (row:List UInt8): -1≤sE row∧sE row<4294967296:=by
 unfold sE
 split
 ·have:=jh (b6 row 4);rw [bT] at this;exact Zm 0x18
 exact Zm 0x18
theorem yQ (f:Fl)(a b:Int):(aj f a b).gen=sE (aX f (aj f a b).sec):=oa3
structure JFnd (f:Fl)(a b:Int)(x:Lg):Prop where
  fits:cY f a b=true
  gen:0≤x.gen∧x.gen<4294967296
  sec:0≤x.sec∧x.sec<(f.data.length:Int)
  oth:0≤x.oth∧x.oth<(f.data.length:Int)
  free:x.free≤ef f
  torn:x.torn≤ef f
theorem pC {f:Fl}{a b:Int}(h:(an f a b).found=true):JFnd f a b (an f a b):=by
 unfold an at h ⊢
 split
 ·rename_i h1;rw [if_pos h1] at h
  split
  ·rename_i h2;rw [if_pos h2,ez] at h
   cases h
  rename_i h2;have hk:=fx (aX f (aj f a b).sec) (aj f a b) (ef f);have hs:=gr h1;have hg:=GZ (aX f (aj f a b).sec);rw [← yQ] at hg;have hf:=kX (row:=aX f (aj f a b).sec) (x:=aj f a b) fy.1 fy.2 (ef f);exact ⟨h1,by rw [hk.2.2];omega,by rw [hk.1];exact ⟨hs.1,hs.2.1⟩,by rw [hk.2.1];exact ⟨hs.2.2.1,hs.2.2.2⟩,hf.1,hf.2⟩
 rename_i h1;rw [if_neg h1] at h
 cases h
section
variable {f:Fl}{a b:Int}{s:List Int}{x:Lg}
theorem zf (h:(an f a b).found=false∨aI s=false):a6 f a b s=⟨fo0,false,200⟩:=if_pos h
theorem sb (hx:x=an f a b)(h1:x.found=true)(h2:aI s=true)(h3:x.s=s):a6 f a b s=⟨fo0,true,0⟩:=by
 subst hx;apply Y 0xc10f;rw [if_neg (by rw [h1,h2];exact fun h=>by rcases h with h|h<;>cases h),if_pos h3]
theorem sa (hx:x=an f a b)(h1:x.found=true)(h2:aI s=true)(h3:x.s≠s)(h4:x.free<ef f):a6 f a b s=dx f ⟨2,x.sec,8+30*(x.free:Int),aw s⟩:=by
 subst hx;apply Y 0xc10f;rw [if_neg (by rw [h1,h2];exact fun h=>by rcases h with h|h<;>cases h),if_neg h3,if_pos h4]
theorem r9 (hx:x=an f a b)(h1:x.found=true)(h2:aI s=true)(h3:x.s≠s)(h4:¬x.free<ef f)(h5:dV (aX f x.oth) (ao f.size (x.gen+1) (aw s))=true):a6 f a b s=dx f ⟨2,x.oth,0,(ao f.size (x.gen+1) (aw s)).take 8⟩:=by
 subst hx;apply Y 0xc10f;rw [if_neg (by rw [h1,h2];exact fun h=>by rcases h with h|h<;>cases h),if_neg h3,if_neg h4,if_pos h5]
theorem r8 (hx:x=an f a b)(h1:x.found=true)(h2:aI s=true)(h3:x.s≠s)(h4:¬x.free<ef f)(h5:dV (aX f x.oth) (ao f.size (x.gen+1) (aw s))=false):a6 f a b s=aS f x.oth (ao f.size 0 (aw s)):=by
 subst hx;apply Y 0xc10f;rw [if_neg (by rw [h1,h2];exact fun h=>by rcases h with h|h<;>cases h),if_neg h3,if_neg h4,if_neg (by rw [h5];exact Bool.false_ne_true)]
theorem ql {b w:List UInt8}{k n:Nat}(h:k≤n):cC b (w.take n) k=cC b w k:=by
 induction k with
 |zero=>rfl
 |succ k ih=>rw [cS,cS,ih oe,fe oe]
theorem pr (h:cY f a b=false∨aI s=false):bG f a b s=(flz,200):=if_pos h
theorem zV {g:Fl}{e:Int}(h1:cY f a b=true)(h2:aI s=true)(hr:aq a (ao f.size 1 (aw s)) 3 f=(g,e))(he:e≠0):bG f a b s=(flz,e):=by
 unfold bG;rw [if_neg (by rw [h1,h2];exact fun h=>by rcases h with h|h<;>cases h),hr,if_pos he]
theorem zU {g h:Fl}{e:Int}(h1:cY f a b=true)(h2:aI s=true)(hr:aq a (ao f.size 1 (aw s)) 3 f=(g,0))(hq:aq b (ao f.size 0 []) 3 g=(h,e))(he:e≠0):bG f a b s=(flz,e):=by
 unfold bG;rw [if_neg (by rw [h1,h2];exact fun h=>by rcases h with h|h<;>cases h),hr]
 simp only [ne_eq,not_true_eq_false,if_false,hq];rw [if_pos he]
theorem pq {g h:Fl}(h1:cY f a b=true)(h2:aI s=true)(hr:aq a (ao f.size 1 (aw s)) 3 f=(g,0))(hq:aq b (ao f.size 0 []) 3 g=(h,0)):bG f a b s=(h,0):=by
 unfold bG;rw [if_neg (by rw [h1,h2];exact fun h=>by rcases h with h|h<;>cases h),hr]
 simp only [ne_eq,not_true_eq_false,if_false,hq]
end
section
variable {f:Fl}{sec:Int}{want:List UInt8}
theorem fu (f:Fl)(sec:Int)(want:List UInt8):(ed f sec want).sec=sec:=by unfold ed;split<;>rfl
theorem LN (hs:0≤sec∧sec<(f.data.length:Int))(hw:want.length=f.size)(hd:(aS f sec want).done=true):aX f sec=want:=by
 apply Y 0xba0f;intro hin
 by_cases h2:f.data.getD sec.toNat []=want
 ·exact h2
 by_cases h3:aF f (ed f sec want)≠0
 ·rw [nu hin h2 rfl h3] at hd
  cases hd
 rw [kT hin h2 rfl h3] at hd
 cases hd
theorem xh (hs:0≤sec∧sec<(f.data.length:Int))(hw:want.length=f.size)(hd:¬((aS f sec want).done=true∨(aS f sec want).e≠0)):aX f sec≠want∧(aS f sec want).x=ed f sec want∧aF f (ed f sec want)=0:=by
 apply Y 0xba0f;intro hin
 by_cases h2:f.data.getD sec.toNat []=want
 ·rw [kU hin h2] at hd
  exact absurd (.inl rfl) hd
 by_cases h3:aF f (ed f sec want)≠0
 ·rw [nu hin h2 rfl h3] at hd
  exact absurd (.inr h3) hd
 exact ⟨h2,by rw [kT hin h2 rfl h3],by simpa using h3⟩
theorem ti (hs:0≤sec∧sec<(f.data.length:Int))(hw:want.length=f.size)(hb:lM (aX f sec) want f.size=true)(hx:ed f sec want=⟨2,sec,0,want⟩):aX (fR f (ed f sec want) (fun _=>255)) sec=want:=by
 have e:aX (fR f (ed f sec want) (fun _=>255)) sec=rI f (ed f sec want) (fun _=>255):=by
  have:=u2 (f:=f) (x:=ed f sec want) (mk:=fun _=>255) (by rw [fu];omega);rw [fu] at this
  exact this
 rw [e,hx];refine aV (d:=0) (by rw [eu,hw]) fun i hi=>?_
 rw [eu] at hi;rw [tM hi,EJ,sV (by show (2:Int)≠1;decide) ou];have h:=List.all_eq_true.1 hb i (List.mem_range.2 hi);have h0:want.getD i 0&&& ~~~((aX f sec).getD i 0)=0:=qD
 show (aX f sec).getD i 0&&&want.getD ((i:Int)-0).toNat 0=want.getD i 0;rw [show ((i:Int)-0).toNat=i from by omega]
 exact (eH _ _).2 h0
theorem nt (hs:0≤sec∧sec<(f.data.length:Int))(hx:ed f sec want=⟨1,sec,0,[]⟩):aX (fR f (ed f sec want) (fun _=>255)) sec=List.replicate f.size 255:=by
 have e:aX (fR f (ed f sec want) (fun _=>255)) sec=rI f (ed f sec want) (fun _=>255):=by
  have:=u2 (f:=f) (x:=ed f sec want) (mk:=fun _=>255) (by rw [fu];omega);rw [fu] at this
  exact this
 rw [e,hx];refine aV (d:=0) (by rw [eu,List.length_replicate]) fun i hi=>?_
 rw [eu] at hi;rw [tM hi,EJ,AR rfl,dI _ _ _ _ hi]
theorem pY (want:List UInt8)(n:Nat):lM (List.replicate n 255) want n=true:=by
 refine List.all_eq_true.2 fun i hi=>?_
 rw [dI _ _ _ _ (List.mem_range.1 hi)];have:want.getD i 0&&& ~~~(255:UInt8)=0:=by
  rw [show ~~~(255:UInt8)=0 from rfl]
  exact AU _
 rw [this];exact Zm 0x2
def tMu (f:Fl)(sec:Int)(want:List UInt8):Nat:=if aX f sec=want then 0 else if lM (aX f sec) want f.size=true then 1 else 2
theorem If (f:Fl)(sec:Int)(want:List UInt8):tMu f sec want≤2:=by unfold tMu;split;exact Nat.zero_le _;split<;>decide
theorem BR (hs:0≤sec∧sec<(f.data.length:Int))(hw:want.length=f.size)(hd:¬((aS f sec want).done=true∨(aS f sec want).e≠0)):tMu (c7 f (aS f sec want).x (fun _=>255)) sec want<tMu f sec want:=by
 obtain ⟨h1,h2,h3⟩:=xh hs hw hd;rw [h2,bO h3]
 unfold tMu;rw [if_neg h1]
 by_cases hb:lM (aX f sec) want f.size=true
 ·rw [if_pos hb,if_pos (ti hs hw hb (tm hb))];exact Zm 0x2ae
 rw [if_neg hb];have e:=nt (want:=want) hs (tj (show lM (aX f sec) want f.size=false by simpa using hb))
 split
 ·exact Zm 0x2ae
 rw [e];have:(fR f (ed f sec want) (fun _=>255)).size=f.size:=rfl;rw [this,if_pos (pY _ _)];exact Zm 0x2ae
theorem jF {k:Nat}(hd:¬((aS f sec want).done=true∨(aS f sec want).e≠0)):aq sec want (k+1) f=aq sec want k (c7 f (aS f sec want).x (fun _=>255)):=by
 show (if _ then _ else _)=_;rw [if_neg hd]
theorem jE:∀ (k:Nat) (f:Fl),f.Ok→(0≤sec∧sec<(f.data.length:Int))→want.length=f.size→(aq sec want k f).1.Ok∧(aq sec want k f).1.size=f.size∧(aq sec want k f).1.data.length=f.data.length
  |0,_,ok,_,_=>⟨ok,rfl,rfl⟩
  |k+1,f,ok,hs,hw=>by
    by_cases hd:(aS f sec want).done=true∨(aS f sec want).e≠0
    · have e:aq sec want (k+1) f=(f,(aS f sec want).e):=if_pos hd
      rw [e]
      exact ⟨ok,rfl,rfl⟩
    · have e:aq sec want (k+1) f=aq sec want k (c7 f (aS f sec want).x (fun _=>255)):=if_neg hd
      rw [e]
      obtain ⟨_,h2,h3⟩:=xh hs hw hd
      have K:=eb (x:=(aS f sec want).x) ok (by rw [h2];exact h3) (fun _=>255)
      obtain ⟨r1,r2,r3⟩:=jE k _ K.ok (by rw [K.n];exact hs) (by rw [K.s];exact hw)
      exact ⟨r1,r2.trans K.s,r3.trans K.n⟩
theorem gU {k:Nat}(hd:(aS f sec want).done=true∨(aS f sec want).e≠0):aq sec want k f=(f,(aS f sec want).e):=by
 cases k with
 |zero=>rfl
 |succ k=>exact if_pos hd
end
end Go.Sl
namespace Go.Proofs.YtbpddeiogcgegaaGreat
open Go.Sl
theorem tC {n:Nat}{s:List Int}(h:38≤n):8+(aw s).length≤n:=by
 rcases tD s with e|e
 ·exact Zm 0x18
 rw [e]
 simp;exact Zm 0x18
theorem nQ (x:UInt8)(B:Option Addr)(bc n:Nat)(h1:1≤n)(hn:n≤4096):
    Ctr X 178 [.slice B 1 bc,.int .i64 (n:Int)] [Rd B (U8 [x])] [] (fun v R' H'=>∃ A oc,v=.slice A n n∧R'=[]∧H'=[Own 5 1 A n oc (U8 (List.replicate n x))]):=by
 refine co Tryz.func178 ?_;intro β;apply Zu 0xec3858c9<;>intro
 ·exact Zm 0x18
 apply Zu 0xe95899<;>intro
 ·exact Zm 0x18
 apply Y 0x9b3f6ec1f483c;refine al (IX n oe) ?_;apply Zu 0x181fb858e848a8<;>intro
 ·exact Zm 0x18
 apply Zu 0xe9b9<;>intro
 ·exact Zm 0x18
 apply Zu 0xece8581acef999<;>intro
 ·exact Zm 0x18
 apply Zu 0xe958c899<;>intro
 ·exact Zm 0x18
 apply Y 0xf999;refine L.makeNoZero (t:=24) (ps:=#[3]) (f:=223) (fn:=Tryz.f223) Tryz.func223 rfl rfl rfl oa rfl rfl rfl rfl oe rfl (fun A c ys hc hy=>?_);apply Y 0x48;refine sp (wR (h:=n) (m:=n) rfl rfl rfl rfl rfl rfl rfl rfl oe oe) ?_;apply Y 0x2d1;refine L.copy (j:=0) (o:=0) rfl rfl rfl rfl rfl (fun g h _=>h) rfl rfl (Src.r 0 rfl) (by simp [U8];omega) (bN _) (by rw [aG,aG];simp;omega) rfl ?_;apply Y 0xba49;refine lp [] [] (fun q:Nat×List UInt8=>[(7,.int .i64 (n:Int)),(8,.int .i64 (n:Int)),(9,.slice A n n),(10,.int .i64 (q.1:Int))]) nz (fun q=>[Own 5 1 A n c (U8 (List.replicate q.1 x++q.2))]) (fun q=>1≤q.1∧q.1≤n∧q.2.length=n-q.1) (fun q=>n-q.1) (1,ys.drop 1) ⟨Nat.le_refl _,h1,by simp [hy]⟩ (by exact lk [] [0] ⟨rfl,rfl,rfl,oT,trivial⟩ (hh:=⟨(congrArg some (ax rfl (by simp [U8]))),trivial⟩)) ?_;apply Y 0xcc2f;intro p ys hp1 hp2 hyl
 dsimp only at hp1 hp2 hyl ⊢;apply Zu 0x79e858<;>intro
 ·apply Y 0x2dba99;refine sp (Ev.cast (u:=.int .i64 (p:Int)) (Ev.pure rfl) (congrArg (Value.int .i64) (if_neg (show ¬ (n:Int)<(p:Int) by omega)))) ?_;apply Y 0xd6e3814ffae36fbe891f443ffe0fee0fde0f4d0f1;refine L.copy (j:=0) (o:=p) (xs:=U8 (List.replicate p x++ys)) (ys:=U8 (List.replicate (min p (n-p)) x)) (D:=bj A n p 1) (dn:=n-p) rfl rfl rfl rfl rfl (fun g h _=>xp (n:=n) (p:=p) h oe) rfl rfl (Src.cast (Src.take (Src.o 0 oT) (min p (n-p))) (lZ (p:=p) (k:=min p (n-p)) (ys:=ys) oe)) Q1 (bN _) qZ oT ?_;apply Y 0x512fe6e3;intro e8;apply Y 0x25e6c6ae3ca;refine QE.round (i:=(p,ys)) ((p+min p (n-p),ys.drop (min p (n-p)))) q8 ou (by exact lk [] [0] ⟨rfl,rfl,rfl,q9,trivial⟩ (hh:=⟨(congrArg some (ax rfl (tS hyl hp2))),trivial⟩))
 apply Y 0xd8c8a9;obtain rfl:p=n:=oe;obtain rfl:ys=[]:=List.eq_nil_of_length_eq_zero oe;apply Y 0x11e;exact ⟨A,c,rfl,rfl,by rw [List.append_nil];rfl⟩
theorem Ap (n g:Nat)(A:Option Addr)(c:Nat)(slot:List UInt8)(hn:n≤4096)(hs:8+slot.length≤n):
    Ctr X 112 [.int .i64 (n:Int),.int .i64 (g:Int),.slice A slot.length c] [Rd A (U8 slot)] [] (fun v R' H'=>∃ O oc,v=.slice O n n∧R'=[]∧H'=[Own 5 1 O n oc (U8 (ao n (g:Int) slot))]):=by
 refine co Tryz.func112 ?_;intro β;apply Y 0x3b7c9;intro A9;apply Y 0x430f6;refine al (nQ 255 _ _ n oe hn) ?_;apply Y 0x19;intro O oc;apply Y 0xf91;refine sp (bw (l:=8) rfl rfl rfl rfl rfl rfl oe) ?_;apply Y 0x6;refine L.copy (j:=0) (o:=8) (xs:=U8 (List.replicate n 255)) (ys:=U8 slot) (D:=bj O n 8 1) (dn:=n-8) rfl rfl rfl rfl rfl (fun g h hp=>xp (n:=n) (p:=8) h (by rw [aG] at hp;omega)) rfl rfl (Src.r 1 rfl) oI (bN _) (by rw [aG,aG,List.length_replicate];omega) rfl ?_;rw [DJ hs];apply Zu 0xe95888<;>intro
 ·apply Y 0x2bcb;intro A19;apply Y 0x49;refine iu 5 1 ?_;apply Y 0x9c;refine L.call (js:=[1,2]) (js':=[0]) (IF A19 none [] 0 g 4 ob ob) rfl rfl rfl ob trivial rfl ?_;apply Y 0x19;intro A' c';rw [show ([]++bt (dd g 4):List UInt8)=bt (dd g 4) from rfl];apply Y 0x56eaa8d9c88;refine L.copy (j:=2) (o:=0) (xs:=U8 (ao n 0 slot)) (ys:=U8 (bt (dd g 4))) (D:=O) (dn:=n) rfl rfl rfl rfl rfl (fun g h _=>h) rfl rfl (Src.o 1 rfl) (by rw [aG,cB];omega) (bN _) (by rw [aG,aG,cB,b7 hs];omega) rfl ?_;rw [DG oe];exact Zm 0xfc0fcc1fd8c888
 apply Y 0x11ed8c899;obtain rfl:g=0:=oe;exact Zm 0xfc0f
theorem sM (n g:Nat)(s:List Int)(hn:n≤4096)(hs:38≤n):
    Ctr X 57 [.int .i64 (n:Int),.int .i64 (g:Int),.agg (List.toArray (st9 s))] [] [] (fun v R' H'=>∃ O,v=.slice O n n∧R'=[]∧H'=[Own 5 1 O n n (U8 (ao n (g:Int) (aw s)))]):=by
 have hsl:=tC (s:=s) hs;refine co Tryz.func57 ?_;intro β;apply Y 0x4a;intro A5;apply Y 0x2c7ae49;refine al (sT n oe) ?_;apply Y 0x71e;intro A13;apply Y 0xc3e71;refine al (xM s) ?_;apply Y 0x19;intro SO sc;apply Y 0xad49;refine lp [0,1,7,8] [_,_,_,_] (fun k:Nat=>[(9,.int .i64 (k:Int))]) (kz [_]) (fun k=>[Own 5 1 A13 n n (U8 (kQ n (aw s) k)),Own 5 1 SO (aw s).length sc (U8 (aw s))]) (fun k=>k≤(aw s).length) (fun k=>(aw s).length-k) 0 (Nat.zero_le _) (by exact lk [0] [1,0] (hh:=⟨(by rw [lC oe];rfl),rfl,trivial⟩)) ?_;intro k hk;apply Zu 0xe9bd<;>intro
 ·apply Y 0x9c89;refine sp (Ev.cast (u:=.int .i64 ((8+k:Nat):Int)) (Ev.add rfl rfl oe oe) (congrArg (Value.int .i64) oe)) ?_;apply Y 0x48;refine sp (ae (k:=k) rfl rfl rfl rfl rfl rfl rfl oe (Src.o 1 rfl) oI) ?_;refine sp (Ev.load rfl rfl rfl (Src.o 1 rfl) (bn oe)) ?_;refine sp (ae (k:=(8+k)) rfl rfl rfl rfl rfl rfl rfl oe (Src.o 0 rfl) (by rw [aG,pK oe hsl];omega)) ?_;refine L.store (j:=0) rfl rfl rfl rfl rfl rfl rfl (by exact bn (by rw [pK oe hsl];omega)) ?_;apply Y 0x8afd;refine QE.round (k+1) oe oe (by exact lk [0] [0,1] (hh:=⟨(by rw [← Av oe hsl,← im];rfl),rfl,trivial⟩))
 apply Y 0xf9a9;refine al (eY g 4 ob) ?_;apply Y 0x19;intro NO nc;refine al (AC NO nc (dd g 4) (by rw [dE];decide)) ?_;apply Y 0x19;intro CO cc;apply Y 0xad49;obtain rfl:k=(aw s).length:=oe;rw [pL];refine lp [1,7,10] [_,_,_] (fun k:Nat=>[(11,.int .i64 (k:Int))]) (kz [_]) (fun k=>[Own 5 1 A13 n n (U8 (pJ n g (aw s) k)),Own 5 1 CO (bt (dd g 4)).length cc (U8 (bt (dd g 4)))]) (fun k=>k≤8∧(k=0∨0<g)) (fun k=>8-k) 0 ⟨Nat.zero_le _,.inl rfl⟩ (lk [0] [2,0]) ?_;apply Y 0xa1e;intro k hk hg;apply Zu 0xb60fb858<;>intro
 ·apply Zu 0xe9b9<;>intro
  ·apply Y 0x489c89;refine sp (ae (k:=k) rfl rfl rfl rfl rfl rfl rfl (by rw [cB];omega) (Src.o 1 rfl) (by rw [aG,cB];omega)) ?_;refine sp (Ev.load rfl rfl rfl (Src.o 1 rfl) (bn (by rw [cB];omega))) ?_;refine sp (ae (k:=k) rfl rfl rfl rfl rfl rfl rfl oe (Src.o 0 rfl) (by rw [aG,pI oe hsl];omega)) ?_;refine L.store (j:=0) rfl rfl rfl rfl rfl rfl rfl (by exact bn (by rw [pI oe hsl];omega)) ?_;apply Y 0x8afd;refine QE.round (k+1) (by exact ⟨by omega,.inr oe⟩) oe (by exact lk [0] [0,1] (hh:=⟨(by rw [← Aq oe hsl,← im];rfl),rfl,trivial⟩))
  apply Y 0x11ed8c8a9;obtain rfl:g=0:=oe;obtain rfl:k=0:=oe;exact ⟨A13,rfl,rfl,rfl⟩
 apply Y 0x1dd;refine C.cond rfl (fun h=>by cases h) (fun _=>?_);apply Y 0x11ed8c8a9;obtain rfl:k=8:=oe;rw [As oe];exact ⟨A13,rfl,rfl,rfl⟩
theorem Hy (A W:Option Addr)(c wc:Nat)(b w:List UInt8)(hl:w.length≤b.length)(hw:w.length≤4096):
    Ctr X 114 [.slice A b.length c,.slice W w.length wc] [Rd A (U8 b),Rd W (U8 w)] [] (fun v R' H'=>v=.bool (cC b w w.length)∧R'=[]∧H'=[]):=by
 refine co Tryz.func114 ?_;intro β;apply Y 0xbae858c9;refine lp [0,7,8] [_,_,_] (fun k:Nat=>[(9,.int .i64 (k:Int))]) (kz [_,_]) nz (fun k=>k≤w.length∧cC b w k=true) (fun k=>w.length-k) 0 ⟨Nat.zero_le _,rfl⟩ (lk [0,1] []) ?_;apply Y 0xa1e;intro k hk ha;apply Zu 0x7920e<;>intro
 ·apply Y 0xf989;refine sp (ae (k:=k) rfl rfl rfl rfl rfl rfl rfl oe (Src.r 1 rfl) oI) ?_;apply Zu 0x5d38440f65be6d1f2d38911f<;>intro hc21
  ·have hno:=wP (b:=b) (w:=w) (k:=k) (n:=w.length) oe (fun h=>hc21 (dN.2 h));apply Y 0x8bdc70e;rw [hno];exact Zm 0x53e
  apply Y 0xd0e5a;refine QE.round (k+1) (by exact ⟨by omega,by rw [cS,ha,Bool.true_and,beq_iff_eq];exact dN.1 hc21⟩) oe (lk [0,1] [])
 apply Y 0xd9c9a9;obtain rfl:k=w.length:=oe;rw [ha];exact Zm 0x53e
theorem yG (f:Fl)(a:Fa)(ok:f.Ok)(_hh:a.hs.length=f.data.length)(sec at_:Int)(d:List UInt8)(A:Option Addr)(c:Nat)(hsec:0≤sec∧sec<(f.data.length:Int)):
    Ctr X 111 [flV f a,.int .i64 sec,.int .i64 at_,.slice A d.length c] (flR f a++[Rd A (U8 d)]) [] (fun v R' H'=>∃ O oc,v=.tuple #[.agg (List.toArray [.int .i64 (dx f ⟨2,sec,at_,d⟩).x.kind,.int .i64 (dx f ⟨2,sec,at_,d⟩).x.sec,.int .i64 (dx f ⟨2,sec,at_,d⟩).x.at_,.slice O (dx f ⟨2,sec,at_,d⟩).x.data.length oc]),.bool (dx f ⟨2,sec,at_,d⟩).done,.int .i64 (dx f ⟨2,sec,at_,d⟩).e]∧R'=[Rd O (U8 (dx f ⟨2,sec,at_,d⟩).x.data)]∧H'=[]):=by
 obtain ⟨os1,os2,on1,on2,owl,odl,orows,ol1,ol2,owear⟩:=ok;refine co Tryz.func111 ?_;intro β;apply Y 0x4a;intro A4;apply Y 0x98;intro A8;apply Y 0x6f868db5538;refine sp (ae (k:=sec.toNat) rfl rfl rfl rfl rfl rfl oe oe (Src.r 4 rfl) qw) ?_;refine sp (Ev.load rfl rfl rfl (Src.r 4 rfl) (kM oe)) ?_;apply Zu 0x1a88<;>intro hc15
 ·have hd:f.dead.getD (Fo.mk 2 sec at_ d).sec.toNat false=true:=hc15;apply Zu 0x10ec5ee0e385bcb
  ·apply Y 0x6be;rw [if_pos hd];exact Zm 0x2
  apply Y 0x6be;rw [if_pos hd];exact Zm 0x2
 have hd:¬ f.dead.getD (Fo.mk 2 sec at_ d).sec.toNat false=true:=by rw [show (Fo.mk 2 sec at_ d).sec=sec from rfl,hc15];exact Bool.false_ne_true
 apply Y 0xd8385bfab83c;refine qrt [5] [] [_,_,_] rfl ⟨⟨_,_,0,_,rfl,rfl,Src.o 0 rfl,.inl ⟨rfl,by decide,_,rfl,rfl,rfl⟩⟩,rfl,rfl,trivial⟩ ?_;refine ⟨A,c,?_,?_,rfl⟩
 ·apply Y 0x6be;rw [if_neg hd];exact Zm 0x2
 apply Y 0x6be;rw [if_neg hd];exact Zm 0x2
theorem yE (f:Fl)(a:Fa)(ok:f.Ok)(_hh:a.hs.length=f.data.length)(sec at_:Int)(d:List UInt8)(A:Option Addr)(c:Nat)(hsec:0≤sec∧sec<(f.data.length:Int)):
    Ctr X 210 [flV f a,.agg (List.toArray [.int .i64 2,.int .i64 sec,.int .i64 at_,.slice A d.length c])] (flR f a++[Rd A (U8 d)]) [] (fun v R' H'=>∃ O oc,v=.agg (List.toArray [.int .i64 (dx f ⟨2,sec,at_,d⟩).x.kind,.int .i64 (dx f ⟨2,sec,at_,d⟩).x.sec,.int .i64 (dx f ⟨2,sec,at_,d⟩).x.at_,.slice O (dx f ⟨2,sec,at_,d⟩).x.data.length oc,.bool (dx f ⟨2,sec,at_,d⟩).done,.int .i64 (dx f ⟨2,sec,at_,d⟩).e])∧R'=[Rd O (U8 (dx f ⟨2,sec,at_,d⟩).x.data)]∧H'=[]):=by
 obtain ⟨os1,os2,on1,on2,owl,odl,orows,ol1,ol2,owear⟩:=ok;refine co Tryz.func210 ?_;intro β;apply Y 0x4a;intro A2;apply Y 0x2b;intro A3;apply Y 0x98;intro A4;apply Y 0xf81b68dbb1e57b;refine sp (ae (k:=sec.toNat) rfl rfl rfl rfl rfl rfl oe oe (Src.r 5 rfl) qw) ?_;apply Zu 0x1a882ee<;>intro hc10
 ·have hd:f.dead.getD (Fo.mk 2 sec at_ d).sec.toNat false=true:=hc10;apply Zu 0x10ebce0e9bcb
  ·apply Y 0x6be;rw [if_pos hd];exact Zm 0x2
  apply Y 0x6be;rw [if_pos hd];exact Zm 0x2
 have hd:¬ f.dead.getD (Fo.mk 2 sec at_ d).sec.toNat false=true:=by rw [show (Fo.mk 2 sec at_ d).sec=sec from rfl,hc10];exact Bool.false_ne_true
 apply Y 0xd89bfac3e3c;refine qrt [6] [] [_] rfl ⟨⟨_,_,0,_,rfl,rfl,Src.o 0 rfl,.inl ⟨rfl,by decide,_,rfl,rfl,rfl⟩⟩,trivial⟩ ?_;refine ⟨A,c,?_,?_,rfl⟩
 ·apply Y 0x6be;rw [if_neg hd];exact Zm 0x2
 apply Y 0x6be;rw [if_neg hd];exact Zm 0x2
end Go.Proofs.YtbpddeiogcgegaaGreat
