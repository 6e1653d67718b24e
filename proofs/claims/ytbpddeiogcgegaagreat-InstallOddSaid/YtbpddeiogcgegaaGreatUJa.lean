/-
  Part of a proof.
-/
import Derived.Test.YtbpddeiogcgegaaGreatUPl
import Derived.Test.YtbpddeiogcgegaaGreatUSlK
set_option maxHeartbeats 0
set_option maxRecDepth 4000
set_option linter.all false
namespace Go.Sl
def br (l:List UInt8):List UInt8:=l.flatMap fun b=>[b,~~~b]
def c6 (n w:Nat):List UInt8:=(List.range w).map fun i=>UInt8.ofNat (n/256^(w-1-i))
def gR (l:List UInt8):Nat:=l.foldl (fun n b=>256*n+b.toNat) 0
def cZ (l:List UInt8)(i:Nat):Bool:=l.getD (2*i) 0== ~~~(l.getD (2*i+1) 0)
def aM (l:List UInt8)(k:Nat):Bool:=(List.range k).all (cZ l)
def bY (l:List UInt8)(k:Nat):List UInt8:=(List.range k).map fun i=>l.getD (2*i) 0
def K8:List Nat:=[0,1,3,4,8,9,10,11,13]
def wds:List Nat:=[1,2,1,4,1,1,1,2,2]
def pK (b:List UInt8):List Int:=(K8.zip wds).map fun p=>(gR ((b.drop p.1).take p.2):Int)
def b7 (slot:List UInt8):Option (List Int):=if aM slot 15=true then some (pK (bY slot 15)) else none
def CG (x:Int)(w:Nat):Bool:=decide (0≤x∧x<(256^w:Nat))
def eg (s:List Int)(k:Nat):Bool:=(List.range k).all fun i=>CG (s.getD i 0) (wds.getD i 0)
def aY (s:List Int):Bool:=eg s 9
def bM (s:List Int)(k:Nat):List UInt8:=(List.range k).flatMap fun i=>c6 (s.getD i 0).toNat (wds.getD i 0)
def ax (s:List Int):List UInt8:=if aY s=true then br (bM s 9) else []
theorem cQ (l:List UInt8):(br l).length=2*l.length:=by
 induction l with
 |nil=>rfl
 |cons b l ih=>
  show ([b,~~~b]++br l).length=_;rw [List.length_append,ih]
  simp;exact Zm 0x18
theorem jL (l m:List UInt8):br (l++m)=br l++br m:=by simp [br]
theorem n9 (b:UInt8):br [b]=[b,~~~b]:=rfl
theorem dA (n w:Nat):(c6 n w).length=w:=by simp [c6]
theorem Ce {n w i:Nat}(h:i<w):(c6 n w).getD i 0=UInt8.ofNat (n/256^(w-1-i)):=ak h 0
theorem cJ (l:List UInt8)(k:Nat):aM l (k+1)=(aM l k&&cZ l k):=by
 unfold aM;exact Zm 0x51e311f
theorem rV (l:List UInt8):aM l 0=true:=rfl
theorem n8 {l:List UInt8}{k n:Nat}(hk:k<n)(h:cZ l k=false):aM l n=false:=by
 unfold aM;rw [List.all_eq_false];exact ⟨k,List.mem_range.2 hk,by simp [h]⟩
theorem vz {l:List UInt8}{k n:Nat}(hk:k<n)(h:aM l n=true):cZ l k=true:=by
 unfold aM at h;rw [List.all_eq_true] at h
 exact h k (List.mem_range.2 hk)
theorem zA {l:List UInt8}{k n:Nat}(hk:k≤n)(h:aM l n=true):aM l k=true:=by
 unfold aM at*;rw [List.all_eq_true] at*
 exact fun i hi=>h i (List.mem_range.2 (by have:=List.mem_range.1 hi;omega))
theorem vA {l:List UInt8}{k n:Nat}(hk:k≤n)(h:aM l k=false):aM l n=false:=by
 cases hn:aM l n
 ·exact Zm 0x2
 rw [zA hk hn] at h
 cases h
theorem bO (l:List UInt8)(k:Nat):(bY l k).length=k:=by simp [bY]
theorem kN (l:List UInt8)(k:Nat):bY l (k+1)=bY l k++[l.getD (2*k) 0]:=by simp [bY,List.range_succ]
theorem gq {l:List UInt8}{k i:Nat}(h:i<k):(bY l k).getD i 0=l.getD (2*i) 0:=ak h 0
theorem mQ (l:List UInt8)(b:UInt8):gR (l++[b])=256*gR l+b.toNat:=by simp [gR]
theorem tZ:∀ (l:List UInt8) (a:Nat),l.foldl (fun n b=>256*n+b.toNat) a<(a+1)*256^l.length
  |[],a=>by simp
  |b::l,a=>by
    have h:=tZ l (256*a+b.toNat)
    rw [List.foldl_cons,List.length_cons,Nat.pow_succ']
    have hb:=UInt8.toNat_lt b
    refine Nat.lt_of_lt_of_le h ?_
    rw [← Nat.mul_assoc]
    exact Nat.mul_le_mul_right _ oe
theorem kZ (l:List UInt8):gR l<256^l.length:=by have:=tZ l 0;simpa [gR] using this
theorem cy {α:Type}(l:List α)(k i:Nat)(d:α):(l.drop k).getD i d=l.getD (k+i) d:=by simp [List.getD_eq_getElem?_getD]
theorem rj (l:List UInt8)(k i:Nat):cZ (l.drop (2*k)) i=cZ l (k+i):=by
 unfold cZ;rw [cy,cy,show 2*k+2*i=2*(k+i) by omega,show 2*k+(2*i+1)=2*(k+i)+1 by omega]
theorem jK {l:List UInt8}{k:Nat}(h:aM l k=true)(w:Nat):aM (l.drop (2*k)) w=aM l (k+w):=by
 induction w with
 |zero=>rw [rV,Nat.add_zero,h]
 |succ w ih=>rw [cJ,ih,← Nat.add_assoc,cJ,rj]
theorem eV {α:Type}{l:List α}{k i:Nat}(h:i<k)(d:α):(l.take k).getD i d=l.getD i d:=QL
theorem vm {l:List UInt8}{k w n:Nat}(h:k+w≤n):bY (l.drop (2*k)) w=((bY l n).drop k).take w:=by
 refine a8 (d:=0) (by rw [bO,List.length_take,List.length_drop,bO];omega) fun i hi=>?_
 rw [bO] at hi;rw [gq hi,cy,eV hi,cy,gq oe,show 2*k+2*i=2*(k+i) by omega]
theorem ri {l:List UInt8}{i n:Nat}(h:2*i+1<n):cZ (l.take n) i=cZ l i:=by
 unfold cZ;rw [eV oe,eV h]
theorem jJ {l:List UInt8}{k n:Nat}(h:2*k≤n):aM (l.take n) k=aM l k:=by
 induction k with
 |zero=>rfl
 |succ k ih=>rw [cJ,cJ,ih oe,ri oe]
theorem kM {l:List UInt8}{k n:Nat}(h:2*k≤n):bY (l.take n) k=bY l k:=by
 refine a8 (d:=0) (by rw [bO,bO]) fun i hi=>?_
 rw [bO] at hi;rw [gq hi,gq hi,eV oe]
theorem nh (s:List Int)(k:Nat):eg s (k+1)=(eg s k&&CG (s.getD k 0) (wds.getD k 0)):=by
 unfold eg;exact Zm 0x51e311f
theorem uZ {s:List Int}{k:Nat}(hk:k<9)(h:CG (s.getD k 0) (wds.getD k 0)=false):aY s=false:=by
 unfold aY eg;rw [List.all_eq_false];exact ⟨k,List.mem_range.2 hk,by simp only [h,Bool.false_eq_true,not_false_eq_true]⟩
theorem bK {s:List Int}(h:aY s=true){k:Nat}(hk:k<9):0≤s.getD k 0∧s.getD k 0<(256^wds.getD k 0:Nat):=by
 unfold aY eg at h;rw [List.all_eq_true] at h;have:=h k (List.mem_range.2 hk)
 unfold CG at this
 exact of_decide_eq_true this
theorem gW (s:List Int)(k:Nat):bM s (k+1)=bM s k++c6 (s.getD k 0).toNat (wds.getD k 0):=by simp [bM,List.range_succ]
theorem vC (s:List Int){k:Nat}(h:k≤9):(bM s k).length≤15:=by
 apply Y 0xd21f;intro e
 match k,h with
 |0,_=>exact Nat.zero_le _
 |1,_|2,_|3,_|4,_|5,_|6,_|7,_|8,_|9,_=>
  apply Y 0x204f;rw [show (bM s 0).length=0 from rfl];exact Zm 0xc9e
theorem gX (s:List Int):(bM s 9).length=15:=by
 apply Y 0xd21f;intro e;exact Zm 0x2204f
theorem eL {s:List Int}(h:aY s=true):ax s=br (bM s 9):=if_pos h
theorem ga {s:List Int}(h:aY s=false):ax s=[]:=if_neg Qu
theorem m3 {s:List Int}(h:aY s=true):(ax s).length=30:=by rw [eL h,cQ,gX]
theorem sL (s:List Int):(ax s).length=30∨ax s=[]:=by
 cases h:aY s
 ·exact .inr (ga h)
 exact .inl (m3 h)
theorem mf (b:List UInt8):(pK b).length=9:=by simp [pK,K8,wds]
structure Lg where
  sec:Int
  oth:Int
  gen:Int
  s:List Int
  found:Bool
  free:Nat
  torn:Nat
def lg0:Lg:=⟨0,0,0,List.replicate 9 0,false,0,0⟩
def cf (row:List UInt8)(i:Nat):List UInt8:=(row.drop (8+30*i)).take 30
def cG (l:List UInt8):Bool:=l.all (· ==255)
def ez (row:List UInt8)(x:Lg)(i:Nat):Lg:=
  if cG (cf row i)=true then x
  else match b7 (cf row i) with
    |some s=>{ x with free:=i+1,s:=s,found:=true }
    |none=>{ x with free:=i+1,torn:=x.torn+1 }
def bz (row:List UInt8)(x:Lg)(k:Nat):Lg:=(List.range k).foldl (ez row) x
def rN (row:List UInt8):Int:=if aM row 4=true then (gR (bY row 4):Int) else -1
def ej (f:Fl):Nat:=(f.size-8)/30
def aV (f:Fl)(s:Int):List UInt8:=f.data.getD s.toNat []
def du (f:Fl)(a b:Int):Bool:=decide (a≠b∧0≤a∧0≤b∧a<(f.data.length:Int)∧b<(f.data.length:Int)∧38≤f.size)
def aj (f:Fl)(a b:Int):Lg:=if rN (aV f b)>rN (aV f a) then { lg0 with sec:=b,oth:=a,gen:=rN (aV f b) } else { lg0 with sec:=a,oth:=b,gen:=rN (aV f a) }
def aq (f:Fl)(a b:Int):Lg:=if du f a b=true then (if (aj f a b).gen<0 then aj f a b else bz (aV f (aj f a b).sec) (aj f a b) (ej f)) else lg0
def aK (f:Fl)(a b:Int):Lg:=if du f a b=true then (if (aj f a b).gen<0 then lg0 else bz (aV f (aj f a b).sec) (aj f a b) (ej f)) else lg0
theorem ek (f:Fl)(a b:Int):(aj f a b).found=false:=oaV
theorem jD (f:Fl)(a b:Int):(aK f a b).found=(aq f a b).found:=by
 unfold aK aq
 split
 ·split
  ·rw [ek];exact Zm 0x2
  exact Zm 0x2
 exact Zm 0x2
theorem cM {f:Fl}{a b:Int}(h:(aq f a b).found=true):aK f a b=aq f a b:=by
 unfold aK
 unfold aq at h ⊢
 split
 ·rename_i h1;rw [if_pos h1] at h
  split
  ·rename_i h2;rw [if_pos h2,ek] at h
   cases h
  exact Zm 0x2
 exact Zm 0x2
theorem bT (row:List UInt8)(x:Lg)(k:Nat):bz row x (k+1)=ez row (bz row x k) k:=by simp [bz,List.range_succ]
theorem uP (row:List UInt8)(x:Lg)(i:Nat):(ez row x i).sec=x.sec∧(ez row x i).oth=x.oth∧(ez row x i).gen=x.gen:=by
 unfold ez
 split
 ·exact Zm 0x33e
 split<;>exact ⟨rfl,rfl,rfl⟩
theorem kv (row:List UInt8)(x:Lg)(k:Nat):(bz row x k).sec=x.sec∧(bz row x k).oth=x.oth∧(bz row x k).gen=x.gen:=by
 induction k with
 |zero=>exact ⟨rfl,rfl,rfl⟩
 |succ k ih=>
  rw [bT];obtain ⟨h1,h2,h3⟩:=uP row (bz row x k) k;exact ⟨h1.trans ih.1,h2.trans ih.2.1,h3.trans ih.2.2⟩
def lgP (f:Fl)(a b:Int):Nat:=if du f a b=true then (if (aj f a b).gen<0 then 0 else ej f) else 0
theorem IE {f:Fl}{a b:Int}(h:(aq f a b).found=true):lgP f a b=ej f:=by
 unfold lgP
 unfold aq at h
 split
 ·rename_i h1;rw [if_pos h1] at h
  split
  ·rename_i h2;rw [if_pos h2,ek] at h
   cases h
  exact Zm 0x2
 rename_i h1;rw [if_neg h1] at h
 cases h
theorem ft {f:Fl}{a b:Int}(h:du f a b=true):a≠b∧0≤a∧0≤b∧a<(f.data.length:Int)∧b<(f.data.length:Int)∧38≤f.size:=of_decide_eq_true h
theorem jq {f:Fl}{a b:Int}(h:du f a b=true):0≤(aj f a b).sec∧(aj f a b).sec<(f.data.length:Int)∧0≤(aj f a b).oth∧(aj f a b).oth<(f.data.length:Int):=by
 have:=ft h
 unfold aj
 split
 ·exact ⟨this.2.2.1,this.2.2.2.2.1,this.2.1,this.2.2.2.1⟩
 exact ⟨this.2.1,this.2.2.2.1,this.2.2.1,this.2.2.2.2.1⟩
def bj (f:Fl)(a b:Int):List Int×Nat×Int:=if (aq f a b).found=true then ((aq f a b).s,(aq f a b).torn,0) else (List.replicate 9 0,0,200)
theorem ns {f:Fl}{a b:Int}(h:(aq f a b).found=true):bj f a b=((aq f a b).s,(aq f a b).torn,0):=if_pos h
theorem s6 {f:Fl}{a b:Int}(h:(aq f a b).found=false):bj f a b=(List.replicate 9 0,0,200):=if_neg Qu
theorem B3 {f:Fl}(h:38≤f.size):0<ej f:=obO
structure Ly where
  n:Int
  a:Int
  b:Int
  s0:Int
  s1:Int
  T:Option Addr
  tn:Nat
  tc:Nat
  U:Option Addr
  un:Nat
  uc:Nat
  V:Option Addr
  vn:Nat
  vc:Nat
theorem uQ {row:List UInt8}{x:Lg}{i:Nat}(h1:x.free≤i)(h2:x.torn≤i):(ez row x i).free≤i+1∧(ez row x i).torn≤i+1:=by
 unfold ez
 split
 ·exact ⟨by omega,by omega⟩
 split<;>exact ⟨by dsimp only;omega,by dsimp only;omega⟩
theorem kx {row:List UInt8}{x:Lg}(h1:x.free=0)(h2:x.torn=0)(k:Nat):(bz row x k).free≤k∧(bz row x k).torn≤k:=by
 induction k with
 |zero=>exact ⟨Nat.le_of_eq h1,Nat.le_of_eq h2⟩
 |succ k ih=>rw [bT];exact uQ ih.1 ih.2
theorem fq {f:Fl}{a b:Int}:(aj f a b).free=0∧(aj f a b).torn=0:=by unfold aj;split<;>exact ⟨rfl,rfl⟩
theorem ql {f:Fl}(ok:f.Ok):ej f≤137:=by
 have:=ok.s2
 unfold ej;exact Zm 0x18
theorem uR {l:List UInt8}{s:List Int}(h:b7 l=some s):s.length=9:=by
 unfold b7 at h
 split at h
 ·injection h with h;rw [← h,mf]
 cases h
theorem wD {row:List UInt8}{x:Lg}{i:Nat}(h:x.s.length=9):(ez row x i).s.length=9:=by
 unfold ez
 split
 ·exact Zm 0xc2e
 split
 ·next s hs=>exact uR hs
 exact Zm 0xc2e
theorem jr (f:Fl)(a b:Int):(aj f a b).s.length=9:=oaV
theorem m7 {row:List UInt8}{x:Lg}(h:x.s.length=9)(k:Nat):(bz row x k).s.length=9:=by
 induction k with
 |zero=>exact h
 |succ k ih=>rw [bT];exact wD ih
theorem nU (f:Fl)(a b:Int):(aq f a b).s.length=9:=by
 unfold aq
 split
 ·split
  ·exact jr ..
  exact m7 (jr ..) _
 exact Zm 0x2
theorem zd (f:Fl)(a b:Int):(aK f a b).s.length=9:=by
 unfold aK
 split
 ·split
  ·exact Zm 0x2
  exact m7 (jr ..) _
 exact Zm 0x2
theorem wE {row:List UInt8}{x:Lg}{i:Nat}(h:cG (cf row i)=true):ez row x i=x:=if_pos h
theorem wC {row:List UInt8}{x:Lg}{i:Nat}{s:List Int}(h:cG (cf row i)=false)(hs:b7 (cf row i)=some s):ez row x i={ x with free:=i+1,s:=s,found:=true }:=by
 unfold ez;rw [if_neg Qu,hs]
theorem wB {row:List UInt8}{x:Lg}{i:Nat}(h:cG (cf row i)=false)(hs:b7 (cf row i)=none):ez row x i={ x with free:=i+1,torn:=x.torn+1 }:=by
 unfold ez;rw [if_neg Qu,hs]
theorem jU {l:List UInt8}(h:cG l=true){i:Nat}(hi:i<l.length):l.getD i 0=255:=by
 unfold cG at h;rw [List.all_eq_true] at h;have:=h (l.getD i 0) (by rw [List.getD_eq_getElem?_getD,List.getElem?_eq_getElem hi];exact List.getElem_mem hi)
 simpa using this
theorem zL {l:List UInt8}(h:cG l=true):l=List.replicate l.length 255:=by
 refine a8 (d:=0) oO fun i hi=>?_
 rw [jU h hi,dE _ _ _ _ hi]
theorem xx (n:Nat):cG (List.replicate n 255)=true:=by
 unfold cG;apply Y 0xf01f;intro x hx;rw [List.eq_of_mem_replicate hx];exact Zm 0x2
theorem rT (l:List UInt8):(l.count 255==l.length)=cG l:=by
 rw [Bool.eq_iff_iff,beq_iff_eq,List.count_eq_length]
 unfold cG;apply Y 0xf01f;exact ⟨fun h b hb=>by rw [← h b hb];rfl,fun h b hb=>(eq_of_beq (h b hb)).symm⟩
theorem vF {l:List UInt8}(hl:2≤l.length)(h:cG l=true):b7 l=none:=by
 unfold b7;rw [if_neg];intro hc;have:=vz (show 0<15 by decide) hc
 unfold cZ at this;rw [jU h oe,jU h oe] at this
 exact absurd this ob
theorem uU {f:Fl}{row:List UInt8}{i:Nat}(hr:row.length=f.size)(hi:i<ej f):(cf row i).length=30∧8+30*i+30≤f.size:=by
 unfold ej at hi;have h1:30*(i+1)≤f.size-8:=by
  have:=Nat.div_mul_le_self (f.size-8) 30;have h2:(i+1)*30≤(f.size-8)/30*30:=Nat.mul_le_mul_right _ hi;exact Zm 0x18
 unfold cf;rw [List.length_take,List.length_drop,hr];exact Zm 0x18
def cB (b w:List UInt8)(k:Nat):Bool:=(List.range k).all fun i=>b.getD i 0&&&w.getD i 0==w.getD i 0
def an (n:Nat)(gen:Int)(slot:List UInt8):List UInt8:=
  (if 0<gen then br (c6 gen.toNat 4) else List.replicate 8 255)++slot++List.replicate (n-8-slot.length) 255
def dL (f:Fl)(x:Fo):Nx:=if f.dead.getD x.sec.toNat false=true then ⟨fo0,false,171⟩ else ⟨x,false,0⟩
def dS (there want:List UInt8):Bool:=there.drop 8==want.drop 8&&cB there (want.take 8) 8
def aR (f:Fl)(a b:Int)(s:List Int):Nx:=
  if (aq f a b).found=false∨aY s=false then ⟨fo0,false,200⟩
  else if (aq f a b).s=s then ⟨fo0,true,0⟩
  else if (aq f a b).free<ej f then dL f ⟨2,(aq f a b).sec,8+30*((aq f a b).free:Int),ax s⟩
  else if dS (aV f (aq f a b).oth) (an f.size ((aq f a b).gen+1) (ax s))=true then dL f ⟨2,(aq f a b).oth,0,(an f.size ((aq f a b).gen+1) (ax s)).take 8⟩
  else aO f (aq f a b).oth (an f.size 0 (ax s))
def ao (sec:Int)(want:List UInt8):Nat→Fl→Fl×Int
  |0,f=>(f,(aO f sec want).e)
  |k+1,f=>if (aO f sec want).done=true∨(aO f sec want).e≠0 then (f,(aO f sec want).e) else ao sec want k (fK f (aO f sec want).x (fun _=>255))
def bH (f:Fl)(a b:Int)(s:List Int):Fl×Int:=
  if du f a b=false∨aY s=false then (flz,200)
  else if (ao a (an f.size 1 (ax s)) 3 f).2≠0 then (flz,(ao a (an f.size 1 (ax s)) 3 f).2)
  else if (ao b (an f.size 0 []) 3 (ao a (an f.size 1 (ax s)) 3 f).1).2≠0 then (flz,(ao b (an f.size 0 []) 3 (ao a (an f.size 1 (ax s)) 3 f).1).2)
  else ((ao b (an f.size 0 []) 3 (ao a (an f.size 1 (ax s)) 3 f).1).1,0)
theorem cS (b w:List UInt8)(k:Nat):cB b w (k+1)=(cB b w k&&(b.getD k 0&&&w.getD k 0==w.getD k 0)):=by
 unfold cB;exact Zm 0x51e311f
theorem vK {b w:List UInt8}{k n:Nat}(hk:k<n)(h:b.getD k 0&&&w.getD k 0≠w.getD k 0):cB b w n=false:=by
 unfold cB;rw [List.all_eq_false];exact ⟨k,List.mem_range.2 hk,by simpa [-List.getD_eq_getElem?_getD] using h⟩
theorem bZ {n:Nat}{gen:Int}{slot:List UInt8}(h:8+slot.length≤n):(an n gen slot).length=n:=by
 unfold an;apply Y 0x7b3f
 split
 ·rw [cQ,dA];exact Zm 0x18
 rw [List.length_replicate];exact Zm 0x18
def rq (k:Nat):Nat:=K8.getD k 15
theorem jt {k:Nat}(h:k<9):rq (k+1)=rq k+wds.getD k 0:=by
 match k,h with
 |0,_|1,_|2,_|3,_|4,_|5,_|6,_|7,_|8,_=>rfl
theorem ya {k:Nat}(h:k<9):rq k+wds.getD k 0≤15:=by
 match k,h with
 |0,_|1,_|2,_|3,_|4,_|5,_|6,_|7,_|8,_=>decide
theorem cN {b:List UInt8}{k:Nat}(h:k<9):(pK b).getD k 0=(gR ((b.drop (rq k)).take (wds.getD k 0)):Int):=by
 match k,h with
 |0,_|1,_|2,_|3,_|4,_|5,_|6,_|7,_|8,_=>rfl
def ig (l:List UInt8)(k:Nat):List Int:=(List.range 9).map fun i=>if i<k then (pK (bY l 15)).getD i 0 else 0
theorem cz (l:List UInt8)(k:Nat):(ig l k).length=9:=by simp [ig]
theorem vo (l:List UInt8):ig l 9=pK (bY l 15):=by
 refine a8 (d:=0) (by rw [cz,mf]) fun i hi=>?_
 rw [cz] at hi
 unfold ig;rw [ak hi,if_pos hi]
theorem zl {l:List UInt8}{k:Nat}(h:k<9):(ig l k).set k (gR (bY (l.drop (2*rq k)) (wds.getD k 0)):Int)=ig l (k+1):=by
 refine a8 (d:=0) (by rw [List.length_set,cz,cz]) fun i hi=>?_
 rw [List.length_set,cz] at hi;have e1:(ig l (k+1)).getD i 0=if i<k+1 then (pK (bY l 15)).getD i 0 else 0:=by unfold ig;rw [ak hi]
 have e2:(ig l k).getD i 0=if i<k then (pK (bY l 15)).getD i 0 else 0:=by unfold ig;rw [ak hi]
 rw [e1]
 by_cases hk:k=i
 ·subst hk;rw [aZ (by rw [cz];exact h),if_pos (Nat.lt_succ_self _),cN h,vm (ya h)]
 rw [getD_set_ne hk,e2]
 by_cases h2:i<k
 ·rw [if_pos h2,if_pos oe]
 rw [if_neg h2,if_neg oe]
def bC (l:List UInt8):List UInt8×Bool:=if aM l (l.length/2)=true then (bY l (l.length/2),true) else ([],false)
theorem kE {l:List UInt8}{k:Nat}(hk:l.length/2=k)(h:aM l k=true):bC l=(bY l k,true):=by unfold bC;rw [hk,if_pos h]
theorem xU {l:List UInt8}{k:Nat}(hk:k<l.length/2)(h:cZ l k=false):bC l=([],false):=by unfold bC;rw [if_neg (by rw [n8 hk h];exact Bool.false_ne_true)]
def smI:List Nat:=[0,2,4,5,6]
def lgI:List Nat:=[1,7,8]
def smV (s:List Int):List Value:=[.int .i64 (s.getD 0 0),.int .i64 (s.getD 2 0),.int .i64 (s.getD 4 0),.int .i64 (s.getD 5 0),.int .i64 (s.getD 6 0)]
def lgV (s:List Int):List Value:=[.int .i64 (s.getD 1 0),.int .i64 (s.getD 7 0),.int .i64 (s.getD 8 0)]
theorem ET (s:List Int){k:Nat}(h:k<5):(smV s)[k]?=some (.int .i64 (s.getD (smI.getD k 0) 0)):=by
 match k,h with
 |0,_|1,_|2,_|3,_|4,_=>rfl
theorem FP (s:List Int){k:Nat}(h:k<3):(lgV s)[k]?=some (.int .i64 (s.getD (lgI.getD k 0) 0)):=by
 match k,h with
 |0,_|1,_|2,_=>rfl
def small (s:List Int)(k:Nat):Prop:=∀ j,j<k→0≤s.getD (smI.getD j 0) 0∧s.getD (smI.getD j 0) 0≤255
def Co (s:List Int)(k:Nat):Prop:=∀ j,j<k→0≤s.getD (lgI.getD j 0) 0∧s.getD (lgI.getD j 0) 0≤65535
theorem uT {s:List Int}{k:Nat}(h:small s k)(h1:0≤s.getD (smI.getD k 0) 0∧s.getD (smI.getD k 0) 0≤255):small s (k+1):=fun j hj=>by
  by_cases e:j=k
  · subst e;exact h1
  · exact h j oe
theorem vh {s:List Int}{k:Nat}(h:Co s k)(h1:0≤s.getD (lgI.getD k 0) 0∧s.getD (lgI.getD k 0) 0≤65535):Co s (k+1):=fun j hj=>by
  by_cases e:j=k
  · subst e;exact h1
  · exact h j oe
theorem jg {s:List Int}:aY s=true↔small s 5∧Co s 3∧0≤s.getD 3 0∧s.getD 3 0≤4294967295:=by
 constructor
 ·intro h;refine ⟨fun j hj=>?_,fun j hj=>?_,?_⟩
  ·match j,hj with
   |0,_=>have:=bK h (show 0<9 by decide);simp only [show (256^wds.getD 0 0:Nat)=256 from rfl] at this;exact ⟨this.1,by have:=this.2;show s.getD 0 0≤255;omega⟩
   |1,_=>have:=bK h (show 2<9 by decide);simp only [show (256^wds.getD 2 0:Nat)=256 from rfl] at this;exact ⟨this.1,by have:=this.2;show s.getD 2 0≤255;omega⟩
   |2,_=>have:=bK h (show 4<9 by decide);simp only [show (256^wds.getD 4 0:Nat)=256 from rfl] at this;exact ⟨this.1,by have:=this.2;show s.getD 4 0≤255;omega⟩
   |3,_=>have:=bK h (show 5<9 by decide);simp only [show (256^wds.getD 5 0:Nat)=256 from rfl] at this;exact ⟨this.1,by have:=this.2;show s.getD 5 0≤255;omega⟩
   |4,_=>have:=bK h (show 6<9 by decide);simp only [show (256^wds.getD 6 0:Nat)=256 from rfl] at this;exact ⟨this.1,by have:=this.2;show s.getD 6 0≤255;omega⟩
  ·match j,hj with
   |0,_=>have:=bK h (show 1<9 by decide);simp only [show (256^wds.getD 1 0:Nat)=65536 from rfl] at this;exact ⟨this.1,by have:=this.2;show s.getD 1 0≤65535;omega⟩
   |1,_=>have:=bK h (show 7<9 by decide);simp only [show (256^wds.getD 7 0:Nat)=65536 from rfl] at this;exact ⟨this.1,by have:=this.2;show s.getD 7 0≤65535;omega⟩
   |2,_=>have:=bK h (show 8<9 by decide);simp only [show (256^wds.getD 8 0:Nat)=65536 from rfl] at this;exact ⟨this.1,by have:=this.2;show s.getD 8 0≤65535;omega⟩
  have:=bK h (show 3<9 by decide)
  simp only [show (256^wds.getD 3 0:Nat)=4294967296 from rfl] at this;exact Zm 0x18
 apply Y 0xb40f;intro h1 h2 h3
 unfold aY eg;apply Y 0xf01f;intro k hk;replace hk:=List.mem_range.1 hk
 unfold CG;refine decide_eq_true ?_
 match k,hk with
 |0,_=>have:=h1 0 ob;show 0≤s.getD 0 0∧s.getD 0 0<256;exact ⟨this.1,Int.lt_of_le_of_lt this.2 ob⟩
 |1,_=>have:=h2 0 ob;show 0≤s.getD 1 0∧s.getD 1 0<65536;exact ⟨this.1,Int.lt_of_le_of_lt this.2 ob⟩
 |2,_=>have:=h1 1 ob;show 0≤s.getD 2 0∧s.getD 2 0<256;exact ⟨this.1,Int.lt_of_le_of_lt this.2 ob⟩
 |3,_=>show 0≤s.getD 3 0∧s.getD 3 0<4294967296;exact ⟨h3.1,Int.lt_of_le_of_lt h3.2 ob⟩
 |4,_=>have:=h1 2 ob;show 0≤s.getD 4 0∧s.getD 4 0<256;exact ⟨this.1,Int.lt_of_le_of_lt this.2 ob⟩
 |5,_=>have:=h1 3 ob;show 0≤s.getD 5 0∧s.getD 5 0<256;exact ⟨this.1,Int.lt_of_le_of_lt this.2 ob⟩
 |6,_=>have:=h1 4 ob;show 0≤s.getD 6 0∧s.getD 6 0<256;exact ⟨this.1,Int.lt_of_le_of_lt this.2 ob⟩
 |7,_=>have:=h2 1 ob;show 0≤s.getD 7 0∧s.getD 7 0<65536;exact ⟨this.1,Int.lt_of_le_of_lt this.2 ob⟩
 |8,_=>have:=h2 2 ob;show 0≤s.getD 8 0∧s.getD 8 0<65536;exact ⟨this.1,Int.lt_of_le_of_lt this.2 ob⟩
def m5 (s:List Int):List UInt8:=[UInt8.ofInt (s.getD 0 0)]++c6 (s.getD 1 0).toNat 2++[UInt8.ofInt (s.getD 2 0)]++c6 (s.getD 3 0).toNat 4++[UInt8.ofInt (s.getD 4 0),UInt8.ofInt (s.getD 5 0),UInt8.ofInt (s.getD 6 0)]++c6 (s.getD 7 0).toNat 2++c6 (s.getD 8 0).toNat 2
theorem gi {x:Int}(h:0≤x):c6 x.toNat 1=[UInt8.ofInt x]:=by
 have e:UInt8.ofInt x=UInt8.ofNat x.toNat:=by
  conv=>lhs;rw [← Int.toNat_of_nonneg h]
  apply UInt8.toNat_inj.1;exact Zm 0x183e1f
 show [UInt8.ofNat (x.toNat/256^0)]=_;rw [e,Nat.pow_zero,Nat.div_one]
theorem m4 {s:List Int}(h:aY s=true):m5 s=bM s 9:=by
 have h0:=fun k (hk:k<9)=>(bK h hk).1
 apply Y 0xd21f;intro e;have w0:c6 (s.getD 0 0).toNat (wds.getD 0 0)=_:=gi (h0 0 ob);have w2:c6 (s.getD 2 0).toNat (wds.getD 2 0)=_:=gi (h0 2 ob);have w4:c6 (s.getD 4 0).toNat (wds.getD 4 0)=_:=gi (h0 4 ob);have w5:c6 (s.getD 5 0).toNat (wds.getD 5 0)=_:=gi (h0 5 ob);have w6:c6 (s.getD 6 0).toNat (wds.getD 6 0)=_:=gi (h0 6 ob);rw [e,e,e,e,e,e,e,e,e,w0,w2,w4,w5,w6,show bM s 0=[] from rfl,show wds.getD 1 0=2 from rfl,show wds.getD 3 0=4 from rfl,show wds.getD 7 0=2 from rfl,show wds.getD 8 0=2 from rfl]
 unfold m5
 simp only [List.nil_append,List.append_assoc,List.cons_append]
theorem AF (b:UInt8):gR [b]=b.toNat:=by simp [gR]
theorem RE {b:List UInt8}(h:b.length=15):st9 (pK b)=[.int .i64 ((b.getD 0 0).toNat:Int),.int .i64 (gR ((b.drop 1).take 2):Int),.int .i64 ((b.getD 3 0).toNat:Int),.int .i64 (gR ((b.drop 4).take 4):Int),.int .i64 ((b.getD 8 0).toNat:Int),
    .int .i64 ((b.getD 9 0).toNat:Int),.int .i64 ((b.getD 10 0).toNat:Int),.int .i64 (gR ((b.drop 11).take 2):Int),.int .i64 (gR ((b.drop 13).take 2):Int)]:=by
 have one:∀ k,k<15→gR ((b.drop k).take 1)=(b.getD k 0).toNat:=fun k hk=>by
  have e:(b.drop k).take 1=[b.getD k 0]:=by
   rw [List.drop_eq_getElem_cons oe,List.take_succ_cons,List.take_zero,List.getD_eq_getElem?_getD,List.getElem?_eq_getElem (show k<b.length by omega),Option.getD_some]
  rw [e,AF]
 unfold st9;rw [cN (show 0<9 by decide),cN (show 1<9 by decide),cN (show 2<9 by decide),cN (show 3<9 by decide),cN (show 4<9 by decide),cN (show 5<9 by decide),cN (show 6<9 by decide),cN (show 7<9 by decide),cN (show 8<9 by decide)];rw [← one 0 ob,← one 3 ob,← one 8 ob,← one 9 ob,← one 10 ob];exact Zm 0x2
theorem re {l:List UInt8}(hl:l.length=30)(h:(bC l).2=true):bC l=(bY l 15,true)∧b7 l=some (pK (bY l 15)):=by
 unfold bC at h;rw [hl] at h
 by_cases hc:aM l 15=true
 ·exact ⟨kE oe hc,by unfold b7;rw [if_pos hc]⟩
 rw [if_neg hc] at h
 cases h
theorem rf {l:List UInt8}(hl:l.length=30)(h:(bC l).2=false):b7 l=none:=by
 unfold bC at h;rw [hl] at h
 by_cases hc:aM l 15=true
 ·rw [if_pos hc] at h
  cases h
 unfold b7;rw [if_neg hc]
theorem va {row:List UInt8}(hl:8≤row.length):rN row=if (bC (row.take 8)).2=true then (gR (bC (row.take 8)).1:Int) else -1:=by
 have e:bC (row.take 8)=if aM row 4=true then (bY row 4,true) else ([],false):=by
  unfold bC;rw [List.length_take,Nat.min_eq_left hl,jJ ob,kM ob]
 rw [e]
 unfold rN
 by_cases hc:aM row 4=true
 ·rw [if_pos hc,if_pos hc];exact Zm 0x2
 rw [if_neg hc,if_neg hc];exact Zm 0x2
theorem xV {l:List UInt8}{n:Nat}(h:l.length/2=n):(bC l).1.length≤n:=by
 unfold bC;rw [h]
 split
 ·rw [bO];exact Zm 0x2de
 exact Zm 0xe2e
def gN (S:Option Addr):List Value:=[ag S 0,.int .i64 1,ag S 1,.int .i64 2,ag S 2,.int .i64 1,ag S 3,.int .i64 4,ag S 4,.int .i64 1,ag S 5,.int .i64 1,ag S 6,.int .i64 1,ag S 7,.int .i64 2,ag S 8,.int .i64 2]
theorem kK (S:Option Addr){k:Nat}(h:k<9):((gN S).drop (k*2)).take 2=[ag S k,.int .i64 (wds.getD k 0:Int)]:=by
 match k,h with
 |0,_=>rfl
 |1,_=>rfl
 |2,_=>rfl
 |3,_=>rfl
 |4,_=>rfl
 |5,_=>rfl
 |6,_=>rfl
 |7,_=>rfl
 |8,_=>rfl
theorem G3 {k:Nat}(h:k<9):1≤wds.getD k 0∧wds.getD k 0≤4:=by
 match k,h with
 |0,_=>decide
 |1,_=>decide
 |2,_=>decide
 |3,_=>decide
 |4,_=>decide
 |5,_=>decide
 |6,_=>decide
 |7,_=>decide
 |8,_=>decide
end Go.Sl
