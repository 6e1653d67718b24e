/-
  Part of a proof.
-/
import Derived.Test.YtbpddeiogcgegaaGreatVPl
import Derived.Test.YtbpddeiogcgegaaGreatVSlK
set_option maxHeartbeats 0
set_option maxRecDepth 4000
set_option linter.all false
namespace Go.Sl
def bt (l:List UInt8):List UInt8:=l.flatMap fun b=>[b,~~~b]
def dd (n w:Nat):List UInt8:=(List.range w).map fun i=>UInt8.ofNat (n/256^(w-1-i))
def ia (l:List UInt8):Nat:=l.foldl (fun n b=>256*n+b.toNat) 0
def c6 (l:List UInt8)(i:Nat):Bool:=l.getD (2*i) 0== ~~~(l.getD (2*i+1) 0)
def aO (l:List UInt8)(k:Nat):Bool:=(List.range k).all (c6 l)
def b6 (l:List UInt8)(k:Nat):List UInt8:=(List.range k).map fun i=>l.getD (2*i) 0
def LR:List Nat:=[0,1,3,4,8,9,10,11,13]
def wds:List Nat:=[1,2,1,4,1,1,1,2,2]
def pH (b:List UInt8):List Int:=(LR.zip wds).map fun p=>(ia ((b.drop p.1).take p.2):Int)
def bX (slot:List UInt8):Option (List Int):=if aO slot 15=true then some (pH (b6 slot 15)) else none
def Dw (x:Int)(w:Nat):Bool:=decide (0≤x∧x<(256^w:Nat))
def dP (s:List Int)(k:Nat):Bool:=(List.range k).all fun i=>Dw (s.getD i 0) (wds.getD i 0)
def aI (s:List Int):Bool:=dP s 9
def bQ (s:List Int)(k:Nat):List UInt8:=(List.range k).flatMap fun i=>dd (s.getD i 0).toNat (wds.getD i 0)
def aw (s:List Int):List UInt8:=if aI s=true then bt (bQ s 9) else []
theorem cQ (l:List UInt8):(bt l).length=2*l.length:=by
 induction l with
 |nil=>rfl
 |cons b l ih=>
  show ([b,~~~b]++bt l).length=_;rw [List.length_append,ih]
  simp;exact Zm 0x18
theorem kb (l m:List UInt8):bt (l++m)=bt l++bt m:=by simp [bt]
theorem pN (b:UInt8):bt [b]=[b,~~~b]:=rfl
theorem dE (n w:Nat):(dd n w).length=w:=by simp [dd]
theorem C6 {n w i:Nat}(h:i<w):(dd n w).getD i 0=UInt8.ofNat (n/256^(w-1-i)):=ak h 0
theorem cK (l:List UInt8)(k:Nat):aO l (k+1)=(aO l k&&c6 l k):=by
 unfold aO;exact Zm 0x81e521f
theorem sO (l:List UInt8):aO l 0=true:=rfl
theorem pM {l:List UInt8}{k n:Nat}(hk:k<n)(h:c6 l k=false):aO l n=false:=by
 unfold aO;rw [List.all_eq_false];exact ⟨k,List.mem_range.2 hk,by simp [h]⟩
theorem wD {l:List UInt8}{k n:Nat}(hk:k<n)(h:aO l n=true):c6 l k=true:=by
 unfold aO at h;rw [List.all_eq_true] at h
 exact h k (List.mem_range.2 hk)
theorem AB {l:List UInt8}{k n:Nat}(hk:k≤n)(h:aO l n=true):aO l k=true:=by
 unfold aO at*;rw [List.all_eq_true] at*
 exact fun i hi=>h i (List.mem_range.2 (by have:=List.mem_range.1 hi;omega))
theorem wE {l:List UInt8}{k n:Nat}(hk:k≤n)(h:aO l k=false):aO l n=false:=by
 cases hn:aO l n
 ·exact Zm 0x2
 rw [AB hk hn] at h
 cases h
theorem bT (l:List UInt8)(k:Nat):(b6 l k).length=k:=by simp [b6]
theorem lz (l:List UInt8)(k:Nat):b6 l (k+1)=b6 l k++[l.getD (2*k) 0]:=by simp [b6,List.range_succ]
theorem gB {l:List UInt8}{k i:Nat}(h:i<k):(b6 l k).getD i 0=l.getD (2*i) 0:=ak h 0
theorem nr (l:List UInt8)(b:UInt8):ia (l++[b])=256*ia l+b.toNat:=by simp [ia]
theorem uW:∀ (l:List UInt8) (a:Nat),l.foldl (fun n b=>256*n+b.toNat) a<(a+1)*256^l.length
  |[],a=>by simp
  |b::l,a=>by
    have h:=uW l (256*a+b.toNat)
    rw [List.foldl_cons,List.length_cons,Nat.pow_succ']
    have hb:=UInt8.toNat_lt b
    refine Nat.lt_of_lt_of_le h ?_
    rw [← Nat.mul_assoc]
    exact Nat.mul_le_mul_right _ oe
theorem jh (l:List UInt8):ia l<256^l.length:=by have:=uW l 0;simpa [ia] using this
theorem cy {α:Type}(l:List α)(k i:Nat)(d:α):(l.drop k).getD i d=l.getD (k+i) d:=by simp [List.getD_eq_getElem?_getD]
theorem rX (l:List UInt8)(k i:Nat):c6 (l.drop (2*k)) i=c6 l (k+i):=by
 unfold c6;rw [cy,cy,show 2*k+2*i=2*(k+i) by omega,show 2*k+(2*i+1)=2*(k+i)+1 by omega]
theorem ka {l:List UInt8}{k:Nat}(h:aO l k=true)(w:Nat):aO (l.drop (2*k)) w=aO l (k+w):=by
 induction w with
 |zero=>rw [sO,Nat.add_zero,h]
 |succ w ih=>rw [cK,ih,← Nat.add_assoc,cK,rX]
theorem fe {α:Type}{l:List α}{k i:Nat}(h:i<k)(d:α):(l.take k).getD i d=l.getD i d:=QQ
theorem wh {l:List UInt8}{k w n:Nat}(h:k+w≤n):b6 (l.drop (2*k)) w=((b6 l n).drop k).take w:=by
 refine aV (d:=0) (by rw [bT,List.length_take,List.length_drop,bT];omega) fun i hi=>?_
 rw [bT] at hi;rw [gB hi,cy,fe hi,cy,gB oe,show 2*k+2*i=2*(k+i) by omega]
theorem rW {l:List UInt8}{i n:Nat}(h:2*i+1<n):c6 (l.take n) i=c6 l i:=by
 unfold c6;rw [fe oe,fe h]
theorem j9 {l:List UInt8}{k n:Nat}(h:2*k≤n):aO (l.take n) k=aO l k:=by
 induction k with
 |zero=>rfl
 |succ k ih=>rw [cK,cK,ih oe,rW oe]
theorem ly {l:List UInt8}{k n:Nat}(h:2*k≤n):b6 (l.take n) k=b6 l k:=by
 refine aV (d:=0) (by rw [bT,bT]) fun i hi=>?_
 rw [bT] at hi;rw [gB hi,gB hi,fe oe]
theorem nO (s:List Int)(k:Nat):dP s (k+1)=(dP s k&&Dw (s.getD k 0) (wds.getD k 0)):=by
 unfold dP;exact Zm 0x81e521f
theorem vR {s:List Int}{k:Nat}(hk:k<9)(h:Dw (s.getD k 0) (wds.getD k 0)=false):aI s=false:=by
 unfold aI dP;rw [List.all_eq_false];exact ⟨k,List.mem_range.2 hk,by simp only [h,Bool.false_eq_true,not_false_eq_true]⟩
theorem bL {s:List Int}(h:aI s=true){k:Nat}(hk:k<9):0≤s.getD k 0∧s.getD k 0<(256^wds.getD k 0:Nat):=by
 unfold aI dP at h;rw [List.all_eq_true] at h;have:=h k (List.mem_range.2 hk)
 unfold Dw at this
 exact of_decide_eq_true this
theorem ik (s:List Int)(k:Nat):bQ s (k+1)=bQ s k++dd (s.getD k 0).toNat (wds.getD k 0):=by simp [bQ,List.range_succ]
theorem wG (s:List Int){k:Nat}(h:k≤9):(bQ s k).length≤15:=by
 apply Y 0x141f;intro e
 match k,h with
 |0,_=>exact Nat.zero_le _
 |1,_|2,_|3,_|4,_|5,_|6,_|7,_|8,_|9,_=>
  apply Y 0xc74f;rw [show (bQ s 0).length=0 from rfl];exact Zm 0x2ae
theorem il (s:List Int):(bQ s 9).length=15:=by
 apply Y 0x141f;intro e;exact Zm 0x2c74f
theorem eW {s:List Int}(h:aI s=true):aw s=bt (bQ s 9):=if_pos h
theorem gk {s:List Int}(h:aI s=false):aw s=[]:=if_neg Qy
theorem jq {s:List Int}(h:aI s=true):(aw s).length=30:=by rw [eW h,cQ,il]
theorem tD (s:List Int):(aw s).length=30∨aw s=[]:=by
 cases h:aI s
 ·exact .inr (gk h)
 exact .inl (jq h)
theorem mQ (b:List UInt8):(pH b).length=9:=by simp [pH,LR,wds]
structure Lg where
  sec:Int
  oth:Int
  gen:Int
  s:List Int
  found:Bool
  free:Nat
  torn:Nat
def lg0:Lg:=⟨0,0,0,List.replicate 9 0,false,0,0⟩
def ck (row:List UInt8)(i:Nat):List UInt8:=(row.drop (8+30*i)).take 30
def cH (l:List UInt8):Bool:=l.all (· ==255)
def gj (row:List UInt8)(x:Lg)(i:Nat):Lg:=
  if cH (ck row i)=true then x
  else match bX (ck row i) with
    |some s=>{ x with free:=i+1,s:=s,found:=true }
    |none=>{ x with free:=i+1,torn:=x.torn+1 }
def bA (row:List UInt8)(x:Lg)(k:Nat):Lg:=(List.range k).foldl (gj row) x
def sE (row:List UInt8):Int:=if aO row 4=true then (ia (b6 row 4):Int) else -1
def ef (f:Fl):Nat:=(f.size-8)/30
def aX (f:Fl)(s:Int):List UInt8:=f.data.getD s.toNat []
def cY (f:Fl)(a b:Int):Bool:=decide (a≠b∧0≤a∧0≤b∧a<(f.data.length:Int)∧b<(f.data.length:Int)∧38≤f.size)
def aj (f:Fl)(a b:Int):Lg:=if sE (aX f b)>sE (aX f a) then { lg0 with sec:=b,oth:=a,gen:=sE (aX f b) } else { lg0 with sec:=a,oth:=b,gen:=sE (aX f a) }
def an (f:Fl)(a b:Int):Lg:=if cY f a b=true then (if (aj f a b).gen<0 then aj f a b else bA (aX f (aj f a b).sec) (aj f a b) (ef f)) else lg0
def aN (f:Fl)(a b:Int):Lg:=if cY f a b=true then (if (aj f a b).gen<0 then lg0 else bA (aX f (aj f a b).sec) (aj f a b) (ef f)) else lg0
theorem ez (f:Fl)(a b:Int):(aj f a b).found=false:=oa3
theorem j3 (f:Fl)(a b:Int):(aN f a b).found=(an f a b).found:=by
 unfold aN an
 split
 ·split
  ·rw [ez];exact Zm 0x2
  exact Zm 0x2
 exact Zm 0x2
theorem cM {f:Fl}{a b:Int}(h:(an f a b).found=true):aN f a b=an f a b:=by
 unfold aN
 unfold an at h ⊢
 split
 ·rename_i h1;rw [if_pos h1] at h
  split
  ·rename_i h2;rw [if_pos h2,ez] at h
   cases h
  exact Zm 0x2
 exact Zm 0x2
theorem bK (row:List UInt8)(x:Lg)(k:Nat):bA row x (k+1)=gj row (bA row x k) k:=by simp [bA,List.range_succ]
theorem vH (row:List UInt8)(x:Lg)(i:Nat):(gj row x i).sec=x.sec∧(gj row x i).oth=x.oth∧(gj row x i).gen=x.gen:=by
 apply Y 0xd10f
 split
 ·exact Zm 0x53e
 split<;>exact ⟨rfl,rfl,rfl⟩
theorem fx (row:List UInt8)(x:Lg)(k:Nat):(bA row x k).sec=x.sec∧(bA row x k).oth=x.oth∧(bA row x k).gen=x.gen:=by
 induction k with
 |zero=>exact ⟨rfl,rfl,rfl⟩
 |succ k ih=>
  rw [bK];obtain ⟨h1,h2,h3⟩:=vH row (bA row x k) k;exact ⟨h1.trans ih.1,h2.trans ih.2.1,h3.trans ih.2.2⟩
def lgP (f:Fl)(a b:Int):Nat:=if cY f a b=true then (if (aj f a b).gen<0 then 0 else ef f) else 0
theorem I3 {f:Fl}{a b:Int}(h:(an f a b).found=true):lgP f a b=ef f:=by
 unfold lgP
 unfold an at h
 split
 ·rename_i h1;rw [if_pos h1] at h
  split
  ·rename_i h2;rw [if_pos h2,ez] at h
   cases h
  exact Zm 0x2
 rename_i h1;rw [if_neg h1] at h
 cases h
theorem eD {f:Fl}{a b:Int}(h:cY f a b=true):a≠b∧0≤a∧0≤b∧a<(f.data.length:Int)∧b<(f.data.length:Int)∧38≤f.size:=of_decide_eq_true h
theorem gr {f:Fl}{a b:Int}(h:cY f a b=true):0≤(aj f a b).sec∧(aj f a b).sec<(f.data.length:Int)∧0≤(aj f a b).oth∧(aj f a b).oth<(f.data.length:Int):=by
 have:=eD h
 unfold aj
 split
 ·exact ⟨this.2.2.1,this.2.2.2.2.1,this.2.1,this.2.2.2.1⟩
 exact ⟨this.2.1,this.2.2.2.1,this.2.2.1,this.2.2.2.2.1⟩
def a8 (f:Fl)(a b:Int):List Int×Nat×Int:=if (an f a b).found=true then ((an f a b).s,(an f a b).torn,0) else (List.replicate 9 0,0,200)
theorem nV {f:Fl}{a b:Int}(h:(an f a b).found=true):a8 f a b=((an f a b).s,(an f a b).torn,0):=if_pos h
theorem tW {f:Fl}{a b:Int}(h:(an f a b).found=false):a8 f a b=(List.replicate 9 0,0,200):=if_neg Qy
theorem CZ {f:Fl}(h:38≤f.size):0<ef f:=ob1
structure Ly where
  n:Int
  a:Int
  b:Int
  s0:Int
  s1:Int
  T:Option Addr
  tn:Nat
  tc:Nat
  U:Option Addr
  un:Nat
  uc:Nat
  V:Option Addr
  vn:Nat
  vc:Nat
theorem vI {row:List UInt8}{x:Lg}{i:Nat}(h1:x.free≤i)(h2:x.torn≤i):(gj row x i).free≤i+1∧(gj row x i).torn≤i+1:=by
 apply Y 0xd10f
 split
 ·exact ⟨by omega,by omega⟩
 split<;>exact ⟨by dsimp only;omega,by dsimp only;omega⟩
theorem kX {row:List UInt8}{x:Lg}(h1:x.free=0)(h2:x.torn=0)(k:Nat):(bA row x k).free≤k∧(bA row x k).torn≤k:=by
 induction k with
 |zero=>exact ⟨Nat.le_of_eq h1,Nat.le_of_eq h2⟩
 |succ k ih=>rw [bK];exact vI ih.1 ih.2
theorem fy {f:Fl}{a b:Int}:(aj f a b).free=0∧(aj f a b).torn=0:=by unfold aj;split<;>exact ⟨rfl,rfl⟩
theorem rS {f:Fl}(ok:f.Ok):ef f≤137:=by
 have:=ok.s2
 unfold ef;exact Zm 0x18
theorem vJ {l:List UInt8}{s:List Int}(h:bX l=some s):s.length=9:=by
 unfold bX at h
 split at h
 ·injection h with h;rw [← h,mQ]
 cases h
theorem xy {row:List UInt8}{x:Lg}{i:Nat}(h:x.s.length=9):(gj row x i).s.length=9:=by
 apply Y 0xd10f
 split
 ·exact Zm 0x22e
 split
 ·next s hs=>exact vJ hs
 exact Zm 0x22e
theorem jM (f:Fl)(a b:Int):(aj f a b).s.length=9:=oa3
theorem nI {row:List UInt8}{x:Lg}(h:x.s.length=9)(k:Nat):(bA row x k).s.length=9:=by
 induction k with
 |zero=>exact h
 |succ k ih=>rw [bK];exact xy ih
theorem pB (f:Fl)(a b:Int):(an f a b).s.length=9:=by
 unfold an
 split
 ·split
  ·exact jM ..
  exact nI (jM ..) _
 exact Zm 0x2
theorem Ad (f:Fl)(a b:Int):(aN f a b).s.length=9:=by
 unfold aN
 split
 ·split
  ·exact Zm 0x2
  exact nI (jM ..) _
 exact Zm 0x2
theorem xz {row:List UInt8}{x:Lg}{i:Nat}(h:cH (ck row i)=true):gj row x i=x:=if_pos h
theorem xx {row:List UInt8}{x:Lg}{i:Nat}{s:List Int}(h:cH (ck row i)=false)(hs:bX (ck row i)=some s):gj row x i={ x with free:=i+1,s:=s,found:=true }:=by
 apply Y 0xd10f;rw [if_neg Qy,hs]
theorem xw {row:List UInt8}{x:Lg}{i:Nat}(h:cH (ck row i)=false)(hs:bX (ck row i)=none):gj row x i={ x with free:=i+1,torn:=x.torn+1 }:=by
 apply Y 0xd10f;rw [if_neg Qy,hs]
theorem ku {l:List UInt8}(h:cH l=true){i:Nat}(hi:i<l.length):l.getD i 0=255:=by
 unfold cH at h;rw [List.all_eq_true] at h;have:=h (l.getD i 0) (by rw [List.getD_eq_getElem?_getD,List.getElem?_eq_getElem hi];exact List.getElem_mem hi)
 simpa using this
theorem AM {l:List UInt8}(h:cH l=true):l=List.replicate l.length 255:=by
 refine aV (d:=0) oS fun i hi=>?_
 rw [ku h hi,dI _ _ _ _ hi]
theorem yi (n:Nat):cH (List.replicate n 255)=true:=by
 unfold cH;apply Y 0x221f;intro x hx;rw [List.eq_of_mem_replicate hx];exact Zm 0x2
theorem sL (l:List UInt8):(l.count 255==l.length)=cH l:=by
 rw [Bool.eq_iff_iff,beq_iff_eq,List.count_eq_length]
 unfold cH;apply Y 0x221f;exact ⟨fun h b hb=>by rw [← h b hb];rfl,fun h b hb=>(eq_of_beq (h b hb)).symm⟩
theorem wJ {l:List UInt8}(hl:2≤l.length)(h:cH l=true):bX l=none:=by
 unfold bX;rw [if_neg];intro hc;have:=wD (show 0<15 by decide) hc
 unfold c6 at this;rw [ku h oe,ku h oe] at this
 exact absurd this ob
theorem vM {f:Fl}{row:List UInt8}{i:Nat}(hr:row.length=f.size)(hi:i<ef f):(ck row i).length=30∧8+30*i+30≤f.size:=by
 unfold ef at hi;have h1:30*(i+1)≤f.size-8:=by
  have:=Nat.div_mul_le_self (f.size-8) 30;have h2:(i+1)*30≤(f.size-8)/30*30:=Nat.mul_le_mul_right _ hi;exact Zm 0x18
 unfold ck;rw [List.length_take,List.length_drop,hr];exact Zm 0x18
def cC (b w:List UInt8)(k:Nat):Bool:=(List.range k).all fun i=>b.getD i 0&&&w.getD i 0==w.getD i 0
def ao (n:Nat)(gen:Int)(slot:List UInt8):List UInt8:=
  (if 0<gen then bt (dd gen.toNat 4) else List.replicate 8 255)++slot++List.replicate (n-8-slot.length) 255
def dx (f:Fl)(x:Fo):Nx:=if f.dead.getD x.sec.toNat false=true then ⟨fo0,false,171⟩ else ⟨x,false,0⟩
def dV (there want:List UInt8):Bool:=there.drop 8==want.drop 8&&cC there (want.take 8) 8
def a6 (f:Fl)(a b:Int)(s:List Int):Nx:=
  if (an f a b).found=false∨aI s=false then ⟨fo0,false,200⟩
  else if (an f a b).s=s then ⟨fo0,true,0⟩
  else if (an f a b).free<ef f then dx f ⟨2,(an f a b).sec,8+30*((an f a b).free:Int),aw s⟩
  else if dV (aX f (an f a b).oth) (ao f.size ((an f a b).gen+1) (aw s))=true then dx f ⟨2,(an f a b).oth,0,(ao f.size ((an f a b).gen+1) (aw s)).take 8⟩
  else aS f (an f a b).oth (ao f.size 0 (aw s))
def aq (sec:Int)(want:List UInt8):Nat→Fl→Fl×Int
  |0,f=>(f,(aS f sec want).e)
  |k+1,f=>if (aS f sec want).done=true∨(aS f sec want).e≠0 then (f,(aS f sec want).e) else aq sec want k (c7 f (aS f sec want).x (fun _=>255))
def bG (f:Fl)(a b:Int)(s:List Int):Fl×Int:=
  if cY f a b=false∨aI s=false then (flz,200)
  else if (aq a (ao f.size 1 (aw s)) 3 f).2≠0 then (flz,(aq a (ao f.size 1 (aw s)) 3 f).2)
  else if (aq b (ao f.size 0 []) 3 (aq a (ao f.size 1 (aw s)) 3 f).1).2≠0 then (flz,(aq b (ao f.size 0 []) 3 (aq a (ao f.size 1 (aw s)) 3 f).1).2)
  else ((aq b (ao f.size 0 []) 3 (aq a (ao f.size 1 (aw s)) 3 f).1).1,0)
theorem cS (b w:List UInt8)(k:Nat):cC b w (k+1)=(cC b w k&&(b.getD k 0&&&w.getD k 0==w.getD k 0)):=by
 unfold cC;exact Zm 0x81e521f
theorem wP {b w:List UInt8}{k n:Nat}(hk:k<n)(h:b.getD k 0&&&w.getD k 0≠w.getD k 0):cC b w n=false:=by
 unfold cC;rw [List.all_eq_false];exact ⟨k,List.mem_range.2 hk,by simpa [-List.getD_eq_getElem?_getD] using h⟩
theorem b7 {n:Nat}{gen:Int}{slot:List UInt8}(h:8+slot.length≤n):(ao n gen slot).length=n:=by
 unfold ao;apply Y 0x234f
 split
 ·rw [cQ,dE];exact Zm 0x18
 rw [List.length_replicate];exact Zm 0x18
def ni (k:Nat):Nat:=LR.getD k 15
theorem jO {k:Nat}(h:k<9):ni (k+1)=ni k+wds.getD k 0:=by
 match k,h with
 |0,_|1,_|2,_|3,_|4,_|5,_|6,_|7,_|8,_=>rfl
theorem zd {k:Nat}(h:k<9):ni k+wds.getD k 0≤15:=by
 match k,h with
 |0,_|1,_|2,_|3,_|4,_|5,_|6,_|7,_|8,_=>decide
theorem cA {b:List UInt8}{k:Nat}(h:k<9):(pH b).getD k 0=(ia ((b.drop (ni k)).take (wds.getD k 0)):Int):=by
 match k,h with
 |0,_|1,_|2,_|3,_|4,_|5,_|6,_|7,_|8,_=>rfl
def iB (l:List UInt8)(k:Nat):List Int:=(List.range 9).map fun i=>if i<k then (pH (b6 l 15)).getD i 0 else 0
theorem cz (l:List UInt8)(k:Nat):(iB l k).length=9:=by simp [iB]
theorem wi (l:List UInt8):iB l 9=pH (b6 l 15):=by
 refine aV (d:=0) (by rw [cz,mQ]) fun i hi=>?_
 rw [cz] at hi
 unfold iB;rw [ak hi,if_pos hi]
theorem Al {l:List UInt8}{k:Nat}(h:k<9):(iB l k).set k (ia (b6 (l.drop (2*ni k)) (wds.getD k 0)):Int)=iB l (k+1):=by
 refine aV (d:=0) (by rw [List.length_set,cz,cz]) fun i hi=>?_
 rw [List.length_set,cz] at hi;have e1:(iB l (k+1)).getD i 0=if i<k+1 then (pH (b6 l 15)).getD i 0 else 0:=by unfold iB;rw [ak hi]
 have e2:(iB l k).getD i 0=if i<k then (pH (b6 l 15)).getD i 0 else 0:=by unfold iB;rw [ak hi]
 rw [e1]
 by_cases hk:k=i
 ·subst hk;rw [aQ (by rw [cz];exact h),if_pos (Nat.lt_succ_self _),cA h,wh (zd h)]
 rw [getD_set_ne hk,e2]
 by_cases h2:i<k
 ·rw [if_pos h2,if_pos oe]
 rw [if_neg h2,if_neg oe]
def bD (l:List UInt8):List UInt8×Bool:=if aO l (l.length/2)=true then (b6 l (l.length/2),true) else ([],false)
theorem ld {l:List UInt8}{k:Nat}(hk:l.length/2=k)(h:aO l k=true):bD l=(b6 l k,true):=by unfold bD;rw [hk,if_pos h]
theorem yL {l:List UInt8}{k:Nat}(hk:k<l.length/2)(h:c6 l k=false):bD l=([],false):=by unfold bD;rw [if_neg (by rw [pM hk h];exact Bool.false_ne_true)]
def smI:List Nat:=[0,2,4,5,6]
def lgI:List Nat:=[1,7,8]
def smV (s:List Int):List Value:=[.int .i64 (s.getD 0 0),.int .i64 (s.getD 2 0),.int .i64 (s.getD 4 0),.int .i64 (s.getD 5 0),.int .i64 (s.getD 6 0)]
def lgV (s:List Int):List Value:=[.int .i64 (s.getD 1 0),.int .i64 (s.getD 7 0),.int .i64 (s.getD 8 0)]
theorem FQ (s:List Int){k:Nat}(h:k<5):(smV s)[k]?=some (.int .i64 (s.getD (smI.getD k 0) 0)):=by
 match k,h with
 |0,_|1,_|2,_|3,_|4,_=>rfl
theorem GJ (s:List Int){k:Nat}(h:k<3):(lgV s)[k]?=some (.int .i64 (s.getD (lgI.getD k 0) 0)):=by
 match k,h with
 |0,_|1,_|2,_=>rfl
def small (s:List Int)(k:Nat):Prop:=∀ j,j<k→0≤s.getD (smI.getD j 0) 0∧s.getD (smI.getD j 0) 0≤255
def Df (s:List Int)(k:Nat):Prop:=∀ j,j<k→0≤s.getD (lgI.getD j 0) 0∧s.getD (lgI.getD j 0) 0≤65535
theorem vL {s:List Int}{k:Nat}(h:small s k)(h1:0≤s.getD (smI.getD k 0) 0∧s.getD (smI.getD k 0) 0≤255):small s (k+1):=fun j hj=>by
  by_cases e:j=k
  · subst e;exact h1
  · exact h j oe
theorem wa {s:List Int}{k:Nat}(h:Df s k)(h1:0≤s.getD (lgI.getD k 0) 0∧s.getD (lgI.getD k 0) 0≤65535):Df s (k+1):=fun j hj=>by
  by_cases e:j=k
  · subst e;exact h1
  · exact h j oe
theorem jA {s:List Int}:aI s=true↔small s 5∧Df s 3∧0≤s.getD 3 0∧s.getD 3 0≤4294967295:=by
 constructor
 ·intro h;refine ⟨fun j hj=>?_,fun j hj=>?_,?_⟩
  ·match j,hj with
   |0,_=>have:=bL h (show 0<9 by decide);simp only [show (256^wds.getD 0 0:Nat)=256 from rfl] at this;exact ⟨this.1,by have:=this.2;show s.getD 0 0≤255;omega⟩
   |1,_=>have:=bL h (show 2<9 by decide);simp only [show (256^wds.getD 2 0:Nat)=256 from rfl] at this;exact ⟨this.1,by have:=this.2;show s.getD 2 0≤255;omega⟩
   |2,_=>have:=bL h (show 4<9 by decide);simp only [show (256^wds.getD 4 0:Nat)=256 from rfl] at this;exact ⟨this.1,by have:=this.2;show s.getD 4 0≤255;omega⟩
   |3,_=>have:=bL h (show 5<9 by decide);simp only [show (256^wds.getD 5 0:Nat)=256 from rfl] at this;exact ⟨this.1,by have:=this.2;show s.getD 5 0≤255;omega⟩
   |4,_=>have:=bL h (show 6<9 by decide);simp only [show (256^wds.getD 6 0:Nat)=256 from rfl] at this;exact ⟨this.1,by have:=this.2;show s.getD 6 0≤255;omega⟩
  ·match j,hj with
   |0,_=>have:=bL h (show 1<9 by decide);simp only [show (256^wds.getD 1 0:Nat)=65536 from rfl] at this;exact ⟨this.1,by have:=this.2;show s.getD 1 0≤65535;omega⟩
   |1,_=>have:=bL h (show 7<9 by decide);simp only [show (256^wds.getD 7 0:Nat)=65536 from rfl] at this;exact ⟨this.1,by have:=this.2;show s.getD 7 0≤65535;omega⟩
   |2,_=>have:=bL h (show 8<9 by decide);simp only [show (256^wds.getD 8 0:Nat)=65536 from rfl] at this;exact ⟨this.1,by have:=this.2;show s.getD 8 0≤65535;omega⟩
  have:=bL h (show 3<9 by decide)
  simp only [show (256^wds.getD 3 0:Nat)=4294967296 from rfl] at this;exact Zm 0x18
 apply Y 0xd50f;intro h1 h2 h3
 unfold aI dP;apply Y 0x221f;intro k hk;replace hk:=List.mem_range.1 hk
 unfold Dw;refine decide_eq_true ?_
 match k,hk with
 |0,_=>have:=h1 0 ob;show 0≤s.getD 0 0∧s.getD 0 0<256;exact ⟨this.1,Int.lt_of_le_of_lt this.2 ob⟩
 |1,_=>have:=h2 0 ob;show 0≤s.getD 1 0∧s.getD 1 0<65536;exact ⟨this.1,Int.lt_of_le_of_lt this.2 ob⟩
 |2,_=>have:=h1 1 ob;show 0≤s.getD 2 0∧s.getD 2 0<256;exact ⟨this.1,Int.lt_of_le_of_lt this.2 ob⟩
 |3,_=>show 0≤s.getD 3 0∧s.getD 3 0<4294967296;exact ⟨h3.1,Int.lt_of_le_of_lt h3.2 ob⟩
 |4,_=>have:=h1 2 ob;show 0≤s.getD 4 0∧s.getD 4 0<256;exact ⟨this.1,Int.lt_of_le_of_lt this.2 ob⟩
 |5,_=>have:=h1 3 ob;show 0≤s.getD 5 0∧s.getD 5 0<256;exact ⟨this.1,Int.lt_of_le_of_lt this.2 ob⟩
 |6,_=>have:=h1 4 ob;show 0≤s.getD 6 0∧s.getD 6 0<256;exact ⟨this.1,Int.lt_of_le_of_lt this.2 ob⟩
 |7,_=>have:=h2 1 ob;show 0≤s.getD 7 0∧s.getD 7 0<65536;exact ⟨this.1,Int.lt_of_le_of_lt this.2 ob⟩
 |8,_=>have:=h2 2 ob;show 0≤s.getD 8 0∧s.getD 8 0<65536;exact ⟨this.1,Int.lt_of_le_of_lt this.2 ob⟩
def nG (s:List Int):List UInt8:=[UInt8.ofInt (s.getD 0 0)]++dd (s.getD 1 0).toNat 2++[UInt8.ofInt (s.getD 2 0)]++dd (s.getD 3 0).toNat 4++[UInt8.ofInt (s.getD 4 0),UInt8.ofInt (s.getD 5 0),UInt8.ofInt (s.getD 6 0)]++dd (s.getD 7 0).toNat 2++dd (s.getD 8 0).toNat 2
theorem gw {x:Int}(h:0≤x):dd x.toNat 1=[UInt8.ofInt x]:=by
 have e:UInt8.ofInt x=UInt8.ofNat x.toNat:=by
  conv=>lhs;rw [← Int.toNat_of_nonneg h]
  apply UInt8.toNat_inj.1;exact Zm 0x18202f
 show [UInt8.ofNat (x.toNat/256^0)]=_;rw [e,Nat.pow_zero,Nat.div_one]
theorem nF {s:List Int}(h:aI s=true):nG s=bQ s 9:=by
 have h0:=fun k (hk:k<9)=>(bL h hk).1
 apply Y 0x141f;intro e;have w0:dd (s.getD 0 0).toNat (wds.getD 0 0)=_:=gw (h0 0 ob);have w2:dd (s.getD 2 0).toNat (wds.getD 2 0)=_:=gw (h0 2 ob);have w4:dd (s.getD 4 0).toNat (wds.getD 4 0)=_:=gw (h0 4 ob);have w5:dd (s.getD 5 0).toNat (wds.getD 5 0)=_:=gw (h0 5 ob);have w6:dd (s.getD 6 0).toNat (wds.getD 6 0)=_:=gw (h0 6 ob);rw [e,e,e,e,e,e,e,e,e,w0,w2,w4,w5,w6,show bQ s 0=[] from rfl,show wds.getD 1 0=2 from rfl,show wds.getD 3 0=4 from rfl,show wds.getD 7 0=2 from rfl,show wds.getD 8 0=2 from rfl]
 unfold nG
 simp only [List.nil_append,List.append_assoc,List.cons_append]
theorem BM (b:UInt8):ia [b]=b.toNat:=by simp [ia]
theorem Rw {b:List UInt8}(h:b.length=15):st9 (pH b)=[.int .i64 ((b.getD 0 0).toNat:Int),.int .i64 (ia ((b.drop 1).take 2):Int),.int .i64 ((b.getD 3 0).toNat:Int),.int .i64 (ia ((b.drop 4).take 4):Int),.int .i64 ((b.getD 8 0).toNat:Int),
    .int .i64 ((b.getD 9 0).toNat:Int),.int .i64 ((b.getD 10 0).toNat:Int),.int .i64 (ia ((b.drop 11).take 2):Int),.int .i64 (ia ((b.drop 13).take 2):Int)]:=by
 have one:∀ k,k<15→ia ((b.drop k).take 1)=(b.getD k 0).toNat:=fun k hk=>by
  have e:(b.drop k).take 1=[b.getD k 0]:=by
   rw [List.drop_eq_getElem_cons oe,List.take_succ_cons,List.take_zero,List.getD_eq_getElem?_getD,List.getElem?_eq_getElem (show k<b.length by omega),Option.getD_some]
  rw [e,BM]
 unfold st9;rw [cA (show 0<9 by decide),cA (show 1<9 by decide),cA (show 2<9 by decide),cA (show 3<9 by decide),cA (show 4<9 by decide),cA (show 5<9 by decide),cA (show 6<9 by decide),cA (show 7<9 by decide),cA (show 8<9 by decide)];rw [← one 0 ob,← one 3 ob,← one 8 ob,← one 9 ob,← one 10 ob];exact Zm 0x2
theorem rT {l:List UInt8}(hl:l.length=30)(h:(bD l).2=true):bD l=(b6 l 15,true)∧bX l=some (pH (b6 l 15)):=by
 unfold bD at h;rw [hl] at h
 by_cases hc:aO l 15=true
 ·exact ⟨ld oe hc,by unfold bX;rw [if_pos hc]⟩
 rw [if_neg hc] at h
 cases h
theorem rU {l:List UInt8}(hl:l.length=30)(h:(bD l).2=false):bX l=none:=by
 unfold bD at h;rw [hl] at h
 by_cases hc:aO l 15=true
 ·rw [if_pos hc] at h
  cases h
 unfold bX;rw [if_neg hc]
theorem vW {row:List UInt8}(hl:8≤row.length):sE row=if (bD (row.take 8)).2=true then (ia (bD (row.take 8)).1:Int) else -1:=by
 have e:bD (row.take 8)=if aO row 4=true then (b6 row 4,true) else ([],false):=by
  unfold bD;rw [List.length_take,Nat.min_eq_left hl,j9 ob,ly ob]
 rw [e]
 unfold sE
 by_cases hc:aO row 4=true
 ·rw [if_pos hc,if_pos hc];exact Zm 0x2
 rw [if_neg hc,if_neg hc];exact Zm 0x2
theorem yM {l:List UInt8}{n:Nat}(h:l.length/2=n):(bD l).1.length≤n:=by
 unfold bD;rw [h]
 split
 ·rw [bT];exact Zm 0xbbe
 exact Zm 0x43e
def gY (S:Option Addr):List Value:=[ag S 0,.int .i64 1,ag S 1,.int .i64 2,ag S 2,.int .i64 1,ag S 3,.int .i64 4,ag S 4,.int .i64 1,ag S 5,.int .i64 1,ag S 6,.int .i64 1,ag S 7,.int .i64 2,ag S 8,.int .i64 2]
theorem lu (S:Option Addr){k:Nat}(h:k<9):((gY S).drop (k*2)).take 2=[ag S k,.int .i64 (wds.getD k 0:Int)]:=by
 match k,h with
 |0,_=>rfl
 |1,_=>rfl
 |2,_=>rfl
 |3,_=>rfl
 |4,_=>rfl
 |5,_=>rfl
 |6,_=>rfl
 |7,_=>rfl
 |8,_=>rfl
theorem HX {k:Nat}(h:k<9):1≤wds.getD k 0∧wds.getD k 0≤4:=by
 match k,h with
 |0,_=>decide
 |1,_=>decide
 |2,_=>decide
 |3,_=>decide
 |4,_=>decide
 |5,_=>decide
 |6,_=>decide
 |7,_=>decide
 |8,_=>decide
end Go.Sl
