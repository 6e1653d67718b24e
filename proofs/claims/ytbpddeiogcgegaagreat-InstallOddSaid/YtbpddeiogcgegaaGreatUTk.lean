/-
  Part of a proof.
-/
import Derived.Test.YtbpddeiogcgegaaGreatUWInD
set_option maxHeartbeats 0
set_option maxRecDepth 4000
set_option linter.all false
namespace Go.Sl
theorem nL {l:List Nat}{i:Nat}(h:i<l.length):l.getD i 0∈l:=by
 exact Zm 0xe40f580f
theorem sY {l:List Nat}(h:l.Pairwise (· < ·)){i k:Nat}(hik:i<k)(hk:k<l.length):l.getD i 0<l.getD k 0:=by
 rw [List.getD_eq_getElem?_getD,List.getD_eq_getElem?_getD,List.getElem?_eq_getElem hk,List.getElem?_eq_getElem oe]
 exact List.pairwise_iff_getElem.1 h i k oe hk hik
section
variable {l:List Sy}{inn:Int}{S n:Nat}
def vU (l:List Sy)(inn:Int)(S n:Nat):List (List Int):=jX (aH l inn S n) (bN l inn S n n) (aH l inn S n).length
def mkQ (l:List Sy)(inn:Int)(S n:Nat):List Nat:=iF (aH l inn S n) (tm (vU l inn S n))
def mkH (l:List Sy)(inn:Int)(S n:Nat):List Nat:=iF (aH l inn S n) (tp (vU l inn S n))
theorem M3 {i k:Nat}(hi:i<(aH l inn S n).length)(hk:k<(aH l inn S n).length):rdP (vU l inn S n) i k=gS l inn S ((aH l inn S n).getD i 0) ((aH l inn S n).getD k 0):=by
 unfold rdP vU jX;rw [ak hi,fC,Bool.eq_iff_iff,List.contains_iff_mem]
 unfold Lc;rw [List.mem_filter,List.mem_range,lH (uq hi).1 (uq hk).1];exact ⟨fun h=>h.2,fun h=>⟨hk,h⟩⟩
theorem kH (h16:(aH l inn S n).length≤16):∃ s,tp (vU l inn S n)=mem s (aH l inn S n).length∧(∀ t,t<(aH l inn S n).length→((tp (vU l inn S n)).contains t=s.testBit t))∧tm (vU l inn S n)=frs (aH l inn S n).length (rdP (vU l inn S n)) s.testBit (aH l inn S n).length∧(tm (vU l inn S n)).length=(aH l inn S n).length:=by
 have hlen:(vU l inn S n).length=(aH l inn S n).length:=c7 _ _ _;obtain ⟨s,h1,h2,h3,h4,_⟩:=Ij (ls:=vU l inn S n) Ew (by rw [hlen];exact h16);rw [hlen] at h1 h3 h4;have hb:2^(aH l inn S n).length≤2^16:=Nat.pow_le_pow_right ob h16;have h16':(2:Nat)^16=65536:=ob;refine ⟨s,by rw [h2,yz oe h1],fun t ht=>?_,h3,by rw [h3];exact iJ.1 h4⟩;rw [h2,rG oe]
theorem yr (h16:(aH l inn S n).length≤16):(mkQ l inn S n).length=(aH l inn S n).length:=by
 obtain ⟨s,_,_,_,h⟩:=kH h16
 unfold mkQ;rw [iE,h]
theorem rE (h16:(aH l inn S n).length≤16){t:Nat}:t∈mkQ l inn S n↔t∈aH l inn S n:=by
 obtain ⟨s,_,_,h3,h⟩:=kH h16
 unfold mkQ iF;rw [List.mem_map]
 constructor
 ·rintro ⟨i,hi,rfl⟩;rw [h3] at hi
  exact nL (gM _ i hi)
 intro ht;obtain ⟨i,hi,rfl⟩:=List.getElem_of_mem ht;refine ⟨i,?_,by rw [List.getD_eq_getElem?_getD,List.getElem?_eq_getElem hi];rfl⟩;rw [h3] at h ⊢
 exact tU (jA _) (gM _) h hi
theorem FM (h16:(aH l inn S n).length≤16):∀ t∈mkH l inn S n,t∈aH l inn S n:=by
 obtain ⟨s,h1,_⟩:=kH h16
 unfold mkH iF;rw [h1];intro t ht;obtain ⟨i,hi,rfl⟩:=List.mem_map.1 ht
 unfold mem at hi
 exact nL (List.mem_range.1 (List.mem_filter.1 hi).1)
theorem Cj (h16:(aH l inn S n).length≤16):(mkH l inn S n).Pairwise (· < ·):=by
 obtain ⟨s,h1,_⟩:=kH h16
 unfold mkH iF;rw [h1,List.pairwise_map];refine List.Pairwise.imp_of_mem (fun {a b} ha hb hab=>?_) (tI s _)
 unfold mem at hb
 exact sY (jO l inn S n) hab (List.mem_range.1 (List.mem_filter.1 hb).1)
theorem FN (h16:(aH l inn S n).length≤16):(mkH l inn S n).length≤(aH l inn S n).length:=by
 obtain ⟨s,h1,_⟩:=kH h16
 unfold mkH;rw [iE,h1]
 exact rF _ _
theorem FK (h16:(aH l inn S n).length≤16):(mkQ l inn S n).Pairwise fun x y=>x∈mkH l inn S n∨gS l inn S y x=false:=by
  obtain ⟨s,h1,h2,h3,h⟩:=kH h16
  unfold mkQ iF
  rw [List.pairwise_map,h3]
  refine List.Pairwise.imp_of_mem (fun {a b} ha hb hab=>?_) (tV (n:=(aH l inn S n).length) (p:=rdP (vU l inn S n)) (st:=s.testBit) _).1
  have ha':=gM _ _ ha
  have hb':=gM _ _ hb
  rcases hab with g|g
  · refine .inl ?_
    unfold mkH iF
    exact List.mem_map.2 ⟨a,List.contains_iff_mem.1 (by rw [h2 a ha'];exact g),rfl⟩
  · exact .inr (by rw [← M3 hb' ha'];exact g)
theorem KT {l:List Nat}{t:Nat}:((t:Nat):Int)∈NI l↔t∈l:=by
 rw [← List.contains_iff_mem,fC,List.contains_iff_mem]
theorem uD (t:Nat):∀ l:List Nat,(NI l).idxOf (t:Int)=l.idxOf t
  |[]=>rfl
  |a::l=>by
    show ((a:Int)::NI l).idxOf (t:Int)=_
    rw [List.idxOf_cons,List.idxOf_cons,uD t l,show ((a:Int)==(t:Int))=(a==t) by rw [Bool.eq_iff_iff,beq_iff_eq,beq_iff_eq];omega]
theorem Ey (l:List Nat)(t:Nat):eB (NI l) (t:Int)=if t∈l then ((l.idxOf t:Nat):Int) else -1:=by
 unfold eB;rw [fC,uD]
 by_cases h:t∈l
 ·rw [if_pos (List.contains_iff_mem.2 h),if_pos h]
 rw [if_neg (fun g=>h (List.contains_iff_mem.1 g)),if_neg h]
theorem Iy (h16:(aH l inn S n).length≤16):stB (NI (aH l inn S n)) (NI (mkH l inn S n))=true:=by
 refine eZ fun i hi=>?_
 rw [bm] at hi;have hg:=j5 hi;have hc:(NI (aH l inn S n)).contains ((NI (mkH l inn S n)).getD i 0)=true:=by
  rw [hg,fC,List.contains_iff_mem]
  exact FM h16 _ (List.getElem_mem hi)
 by_cases h0:0<i
 ·refine lh hc ?_;have:=sY (Cj h16) (show i-1<i by omega) hi;have e1:=j5 (l:=mkH l inn S n) (i:=i-1) oe;rw [List.getD_eq_getElem?_getD,List.getD_eq_getElem?_getD,List.getElem?_eq_getElem hi,List.getElem?_eq_getElem oe] at this;rw [e1,hg]
  simp only [Option.getD_some] at this;exact Zm 0x18
 exact ll hc h0
theorem Iz (h16:(aH l inn S n).length≤16):plB l inn S n (NI (mkQ l inn S n)) (NI (mkH l inn S n))=true:=by
 refine eZ fun u hu=>eZ fun t ht=>?_
 cases hr:gS l inn S u t with
 |false=>rfl
 |true=>
  have h1:=lI hr;have hum:u∈mkQ l inn S n:=(rE h16).2 (dC.2 ⟨hu,h1.1⟩);have htm:t∈mkQ l inn S n:=(rE h16).2 (dC.2 ⟨ht,h1.2⟩);rw [Bool.not_true,Bool.false_or]
  by_cases hs:t∈mkH l inn S n
  ·exact lT (by rw [fC];exact List.contains_iff_mem.2 hs)
  refine lS fun hlt=>?_
  rw [Ey,Ey,if_pos hum,if_pos htm] at hlt;have hul:=List.idxOf_lt_length_iff.2 hum;have htl:=List.idxOf_lt_length_iff.2 htm;have:=List.pairwise_iff_getElem.1 (FK h16) _ _ htl hul oe;rw [List.getElem_idxOf,List.getElem_idxOf,hr] at this
  rcases this with g|g
  ·exact hs g
  cases g
end
section
variable {lf:Bool}{inn out sz n:Int}{ops:List Po}{ol:Nat}
theorem D8 (h:mkE lf inn out sz n ops ol=0):cF inn out ops=0∧lf=false∧kb sz n inn out=true∧(ol:Int)=inn∧(aH (ah ops) inn sz.toNat n.toNat).length≤16:=by
 unfold mkE at h
 split at h
 ·exact Zm 0x18
 rename_i h1
 split at h
 ·exact Zm 0x18
 rename_i h2
 split at h
 ·exact Zm 0x18
 rename_i h3
 split at h
 ·exact Zm 0x18
 rename_i h4
 split at h
 ·exact Zm 0x18
 rename_i h5;refine ⟨by omega,by simpa using h2,by simpa using h3,by omega,by omega⟩
theorem D7 (h:mkE lf inn out sz n ops ol=0):mkP lf inn out sz n ops ol=⟨sz,n,lf,inn,out,ops,NI (mkQ (ah ops) inn sz.toNat n.toNat),NI (mkH (ah ops) inn sz.toNat n.toNat)⟩:=D6 h
theorem Ix (h:mkE lf inn out sz n ops ol=0):eD lf sz n inn out ops (NI (mkQ (ah ops) inn sz.toNat n.toNat)) (NI (mkH (ah ops) inn sz.toNat n.toNat))=true:=by
 obtain ⟨h1,h2,h3,h4,h5⟩:=D8 h;refine eI.2 ⟨h1,h2,h3,(iV (jO _ _ _ _)).2 ⟨by rw [bm,yr h5],fun t ht=>KT.2 ((rE h5).2 ht)⟩,Iy h5,Iz h5⟩
theorem FL:(mkP lf inn out sz n ops ol).ops.length≤ops.length∧(mkP lf inn out sz n ops ol).q.length≤16∧(mkP lf inn out sz n ops ol).h.length≤16:=by
 by_cases h:mkE lf inn out sz n ops ol=0
 ·have h5:=(D8 h).2.2.2.2;rw [D7 h];refine ⟨Nat.le_refl _,?_,?_⟩
  ·rw [bm,yr h5]
   exact h5
  rw [bm]
  exact Nat.le_trans (FN h5) h5
 rw [yu h];exact ⟨Nat.zero_le _,by decide,by decide⟩
end
section
variable {f:Fl}{y:Lay}{p:Pln}
def Pln.sy (p:Pln):List Sy:=ah p.ops
def Pln.new (p:Pln)(old:List UInt8):List UInt8:=bf old p.sy
theorem PlnFit.sz1 (h:PlnFit f y p):1≤p.sz.toNat∧1≤p.n∧p.inn≤p.sz*p.n∧p.out≤p.sz*p.n∧p.n≤64:=by
 have:=dy.1 h.val.2.2.1;exact Zm 0x18
end
structure Upd where
  y:Lay
  k:Pkg
  old:List UInt8
  S:Nat
  N:Nat
  L:Int
  bad:Nat
  z0:List UInt8
  z1:List UInt8
def Upd.p (U:Upd):Pln:=U.k.pl
def Upd.new (U:Upd):List UInt8:=U.p.new U.old
def Upd.K (U:Upd):Nat:=U.p.seq.length
def Upd.H (U:Upd):Nat:=U.p.st.length
def Upd.V (U:Upd):Nat:=U.y.us.length
def Upd.O (U:Upd)(t:Nat):List UInt8:=ctF U.old t U.S
def Upd.W (U:Upd)(t:Nat):List UInt8:=ctF U.new t U.S
def Upd.q (U:Upd)(k:Nat):Nat:=(U.p.seq.getD k 0).toNat
def Upd.r (U:Upd)(k:Nat):List UInt8:=gI (U.p.seq.getD k 0) (U.O (U.q k)) (U.W (U.q k))
def Upd.rl (U:Upd)(k:Nat):List UInt8:=((List.range k).map U.r).flatten
def Upd.e (U:Upd)(k:Nat):Nat:=(U.rl k).length
section
variable {U:Upd}
inductive Pos where
  |pre (i:Nat)|sta (i:Nat)|w0 (k:Nat)|w1 (k:Nat)|w2 (k:Nat)|mig|b0 (k:Nat)|b1 (k:Nat)|idl
end
section
variable {U:Upd}{f:Fl}{Q:Int}{g:Nat}{h:Bool}
def Upd.X (U:Upd)(g:Nat)(f:Fl):Pos→Nx
  | .pre i=>if i<U.V then aO f (U.y.us.getD i 0) (List.replicate U.S 255) else nxD
  | .sta i=>if i<U.H then aO f (U.y.ls.getD i 0) (U.O (U.p.st.getD i 0).toNat) else nxD
  | .w0 k=>if k<U.K then towS f U.y.us (U.e k:Int) (U.r k) else nxD
  | .w1 k=>aO f (U.y.gs.getD g 0) (U.W (U.q k))
  | .w2 k=>aO f (U.q k:Int) (U.W (U.q k))
  | .mig=>nxD
  | .b0 k=>if k=0 then nxD else aO f (U.y.gs.getD g 0) (U.O (U.q (k-1)))
  | .b1 k=>aO f (U.q (k-1):Int) (U.O (U.q (k-1)))
  | .idl=>nxD
def Pos.stg:Pos→Bool
  | .w1 _=>true
  | .b0 k=>decide (k≠0)
  |_=>false
def Upd.sw (U:Upd)(g:Nat)(f:Fl)(x:Pos):Prop:=x.stg=true∧((U.X g f x).e=171∨(U.X g f x).e=172)∧g+1<U.y.gs.length
instance (U:Upd)(g:Nat)(f:Fl)(x:Pos):Decidable (U.sw g f x):=by unfold Upd.sw;infer_instance
theorem ep {y:Lay}{k:Pkg}{s:List Int}(hl:eT f y=true)(h0:(bj f y.a y.b).2.2=0)(hs:(bj f y.a y.b).1=s):
    bJ f y k h=if sPh s=0∨sPh s=4∨sPh s=5 then nxD else if sPh s=6 then dF f y s else if sPh s>6 then nxE 240 else if Sl.fitE f y s k h≠0 then nxE (Sl.fitE f y s k h) else if sPh s=1 then dQ f y s k.pl else if sPh s=2 then eE f y s k.pl else dw f y s k.pl:=by
 unfold bJ;rw [if_neg (by rw [hl];decide),if_neg (fun q=>q h0),hs]
theorem dd (f:Fl)(y:Lay)(s:List Int):cj f y nxD s=aR f y.a y.b s:=if_neg (by rintro (h|h);exact h rfl;cases h)
end
end Go.Sl
namespace Go.Proofs.YtbpddeiogcgegaaGreat
open Go.Sl
theorem cI {f:Fl}{y:Lay}:eT f y=true↔f.Ok∧38≤f.size∧1≤y.n∧y.n≤(f.data.length:Int)∧1≤y.gs.length∧y.gs.length≤8∧(∀ x∈y.rest,y.n≤x∧x<(f.data.length:Int))∧y.rest.Nodup:=by
 unfold eT;rw [Bool.and_eq_true,decide_eq_true_eq,decide_eq_true_eq]
section
variable {f:Fl}{y:Lay}{p:Pln}{s:List Int}
theorem xT (h:(p.need ((dX f y.n).take p.inn.toNat)).1≠0):dQ f y s p=nxE (p.need ((dX f y.n).take p.inn.toNat)).1:=if_pos h
theorem xS (h:(p.need ((dX f y.n).take p.inn.toNat)).1=0)(h2:(p.need ((dX f y.n).take p.inn.toNat)).2.u>(y.us.length:Int)):dQ f y s p=nxE 191:=by
 unfold dQ;rw [if_neg (fun q=>q h),if_pos h2]
theorem DX (h:(p.need ((dX f y.n).take p.inn.toNat)).1=0)(h2:¬(p.need ((dX f y.n).take p.inn.toNat)).2.u>(y.us.length:Int))(h3:sSt s≥(p.need ((dX f y.n).take p.inn.toNat)).2.u):dQ f y s p=cj f y nxD ((s.set 0 2).set 1 0):=by
 unfold dQ;rw [if_neg (fun q=>q h),if_neg h2,if_pos h3];exact Zm 0xd40f
theorem td (h:(p.need ((dX f y.n).take p.inn.toNat)).1=0)(h2:¬(p.need ((dX f y.n).take p.inn.toNat)).2.u>(y.us.length:Int))(h3:¬sSt s≥(p.need ((dX f y.n).take p.inn.toNat)).2.u):dQ f y s p=cj f y (aO f (y.us.getD (sSt s).toNat 0) (List.replicate f.size 255)) (s.set 1 (sSt s+1)):=by
 unfold dQ;rw [if_neg (fun q=>q h),if_neg h2,if_neg h3]
end
theorem p9 (f:Fl)(a:Fa)(ok:f.Ok)(hh:a.hs.length=f.data.length)(y:Lay)(G U V:Option Addr)(gc uc vc:Nat)(hyn: -1000000≤y.n∧y.n≤1000000)(hyl:y.gs.length≤1000∧y.us.length≤1000∧y.ls.length≤1000)(hcap:Caps f a)(p0 p1 p2 p3 p4 p5 p6 p7 p8:Int)(hp:∀ x∈[p0,p1,p2,p3,p4,p5,p6,p7,p8],0≤x∧x≤4294967295)(p:Pln)(OA QA HA:Option Addr)(oc qc hc:Nat)(hpl:p.ops.length≤9223372036854775807∧p.seq.length≤1000000∧p.st.length≤1000000)(hfit:PlnFit f y p)(hlay:eT f y=true):
    Ctr X 47 [flV f a,.agg (List.toArray (di y G U V gc uc vc)),.agg (List.toArray [.int .i64 p0,.int .i64 p1,.int .i64 p2,.int .i64 p3,.int .i64 p4,.int .i64 p5,.int .i64 p6,.int .i64 p7,.int .i64 p8]),.agg (List.toArray [.int .i64 p.sz,.int .i64 p.n,.bool p.lf,.int .i64 p.inn,.int .i64 p.out,.slice OA p.ops.length oc,.slice QA p.seq.length qc,.slice HA p.st.length hc])] (flR f a++[Rd G (I64 y.gs),Rd U (I64 y.us),Rd V (I64 y.ls),Rd OA (ck p.ops),Rd QA (I64 p.seq),Rd HA (I64 p.st)]) [] (fun v R' H'=>∃ (O:Option Addr) (oc:Nat),v=.agg (List.toArray [.int .i64 (dQ f y [p0,p1,p2,p3,p4,p5,p6,p7,p8] p).x.kind,.int .i64 (dQ f y [p0,p1,p2,p3,p4,p5,p6,p7,p8] p).x.sec,.int .i64 (dQ f y [p0,p1,p2,p3,p4,p5,p6,p7,p8] p).x.at_,.slice O (dQ f y [p0,p1,p2,p3,p4,p5,p6,p7,p8] p).x.data.length oc,.bool (dQ f y [p0,p1,p2,p3,p4,p5,p6,p7,p8] p).done,.int .i64 (dQ f y [p0,p1,p2,p3,p4,p5,p6,p7,p8] p).e])∧R'=[Rd O (U8 (dQ f y [p0,p1,p2,p3,p4,p5,p6,p7,p8] p).x.data)]∧H'=[]):=by
 apply Y 0xc1e;intro hok;obtain ⟨os1,os2,on1,on2,owl,odl,orows,ol1,ol2,owear⟩:=ok;obtain ⟨_,hl38,hl1,hl2,hl3,hl4,hl5,hl6⟩:=cI.1 hlay;apply Y 0x57e;intro hp0;apply Y 0x67e;intro hp1;apply Y 0x77e;intro hp2;apply Y 0x87e;intro hp3;apply Y 0x97e;intro hp4;apply Y 0xa7e;intro hp5;apply Y 0xb7e;intro hp6;apply Y 0xc7e;intro hp7;apply Y 0xd7e;intro hp8;have hin0:=hfit.inn.1;apply Y 0x542f;intro hin1;refine co Tryz.func47 ?_;intro β;apply Y 0x6a;intro A4;apply Y 0x7b;intro A5;apply Y 0x7b;intro A6;apply Y 0x7b;intro A7;apply Y 0xa8;intro A8;apply Y 0x8c7c71ed1e45e26e6de900fcb;refine C.join (fun q:Option Addr=>[(4,ag A4 0),(5,ag A5 0),(6,ag A6 0),(7,ag A7 0),(8,ag A8 0),(9,ag q 0),(10,.int .i64 (p.need ((dX f y.n).take p.inn.toNat)).1)]) (fun q:Option Addr=>[Rd A7 [.int .i64 p.sz,.int .i64 p.n,.bool p.lf,.int .i64 p.inn,.int .i64 p.out,.slice OA p.ops.length oc,.slice QA p.seq.length qc,.slice HA p.st.length hc],Rd A6 [.int .i64 p0,.int .i64 p1,.int .i64 p2,.int .i64 p3,.int .i64 p4,.int .i64 p5,.int .i64 p6,.int .i64 p7,.int .i64 p8],Rd A5 (di y G U V gc uc vc),Rd A4 (flL f a),Rd a.D (aC a.hs (B8 f.data)),aS a.hs (B8 f.data),Rd a.W (I64 f.wear),Rd a.E (Bs f.dead),Rd G (I64 y.gs),Rd U (I64 y.us),Rd V (I64 y.ls),Rd OA (ck p.ops),Rd QA (I64 p.seq),Rd HA (I64 p.st)]) (fun q:Option Addr=>[Own 62 6 A8 1 1 [.int .i64 0,.int .i64 0,.int .i64 0,.slice none 0 0,.bool false,.int .i64 0],Own 49 5 q 1 1 [.int .i64 (p.need ((dX f y.n).take p.inn.toNat)).2.s,.int .i64 (p.need ((dX f y.n).take p.inn.toNat)).2.u,.int .i64 (p.need ((dX f y.n).take p.inn.toNat)).2.r,.int .i64 (p.need ((dX f y.n).take p.inn.toNat)).2.e,.int .i64 (p.need ((dX f y.n).take p.inn.toNat)).2.o]]) (fun q:Option Addr=>True) ?_ ?_
 ·apply Y 0x2c0f;refine mq 0 rfl (ab (vs:=(flL f a)) rfl rfl rfl (Src.r 3 rfl) rfl rfl ob) ?_;refine mq 1 rfl (ab (vs:=(di y G U V gc uc vc)) rfl rfl rfl (Src.r 2 rfl) rfl rfl ob) ?_;apply Y 0x370fbde;refine mq 5 rfl (Ev.cast (u:=.int .i64 ((p.inn.toNat:Nat):Int)) (ldR 0) (congrArg (Value.int .i64) (Int.toNat_of_nonneg hin0).symm)) ?_;refine mq 7 rfl (ab (vs:=[.int .i64 p.sz,.int .i64 p.n,.bool p.lf,.int .i64 p.inn,.int .i64 p.out,.slice OA p.ops.length oc,.slice QA p.seq.length qc,.slice HA p.st.length hc]) rfl rfl rfl (Src.r 0 rfl) rfl rfl ob) ?_;refine LM.alt [2,12] oa ob hcx ⟨⟨_,rfl,?_⟩,⟨_,rfl,?_⟩,trivial⟩
  ·apply Y 0x23e523f;intro IA ic hic;apply Y 0x32c;refine LM.alt [6,12] oa ob hcx ⟨⟨_,rfl,?_⟩,⟨_,rfl,?_⟩,trivial⟩
   ·apply Zu 0x9f2f32c88691f
    ·refine L.call (js:=[]) (js':=[0,1]) (lU IA ((dX f y.n).take p.inn.toNat) ic p.sz p.n p.lf p.inn p.out p.ops p.seq p.st OA QA HA oc qc hc hpl.1 hpl.2.1 hpl.2.2 oN oN) rfl rfl rfl ob ⟨((Has.take (Has.o 0 rfl) p.inn.toNat).cast (bu _ _)),(Has.r 11 rfl),(Has.r 12 rfl),(Has.r 13 rfl),trivial⟩ rfl ?_;apply Y 0xa8b3e78e99e55e32c88;intro A9;exact Zm 0x2b0f5cf2e69a3eb5e3
    apply Y 0xa8;intro A9;exact Zm 0x2b0f5cf2e69a3eb5e78e99e55e370e88f61f74e3
   apply Y 0xa8;intro A9;exact Zm 0x2b0f5cf2e69a3eb5e78e99e55e370e88f61f74e370e88691fe4e3
  apply Y 0xa8;intro A9;apply Y 0x23e523f3ae3;intro IA ic hic;exact Zm 0x2b0f5cf2e69a3eb5e78e99e55e370e88f61f74e370e88691fe4e370e
 rintro A9 _
 try dsimp only
 apply Zu 0xdd38788cb2e558a<;>intro hc25
 ·apply Zu 0xedccb0e5bbab9
  ·rw [xT hc25];exact Zm 0x2
  rw [xT hc25];exact Zm 0x2
 apply Zu 0x2a6ceb9ef85859<;>intro hc33
 ·apply Zu 0xedccb0e5b8b
  ·rw [xS hc25 hc33];exact Zm 0x2
  rw [xS hc25 hc33];exact Zm 0x2
 have hnu:(p.need ((dX f y.n).take p.inn.toNat)).2.u≤(y.us.length:Int):=oe;apply Y 0xa8493f8d;intro A11;apply Zu 0x791f8d5e73e58984c<;>intro hc40
 ·apply Y 0xc60fb60f6c2f8cb2ecb9c48989c48;refine mq 3 rfl (ab (vs:=[.int .i64 2,.int .i64 0,.int .i64 p2,.int .i64 p3,.int .i64 p4,.int .i64 p5,.int .i64 p6,.int .i64 p7,.int .i64 p8]) rfl rfl rfl (Src.r 0 rfl) rfl rfl ob) ?_;apply Y 0x8ae694a887de3ae;refine b4 (js:=[]) (js':=[0]) (eJ f a hok hh y G U V gc uc vc hyn hyl hcap nxD none 0 [2,0,p2,p3,p4,p5,p6,p7,p8] rfl) rfl rfl rfl ob ⟨(Has.r 6 rfl),(Has.r 7 rfl),(Has.r 8 rfl),(Has.r 9 rfl),Has.nil,trivial⟩ rfl ?_;apply Y 0x19;intro TO tc;apply Zu 0x25ecc898afc6bbbe34a
  ·exact Zm 0x23d3f
  exact Zm 0x23d3f
 apply Y 0x933fc60fb60f6c2f8cb2ecb9cdafa8d;refine mq 3 rfl (faR 4) ?_;refine mq 4 rfl (ldR 4) ?_;refine mq 5 rfl (faR 3) ?_;refine mq 6 rfl (ldR 3) ?_;apply Y 0x843f643f;refine mq 9 rfl (faR 5) ?_;refine mq 10 rfl (ldR 5) ?_;refine mq 13 rfl (ab (vs:=[.int .i64 p0,.int .i64 (p1+1),.int .i64 p2,.int .i64 p3,.int .i64 p4,.int .i64 p5,.int .i64 p6,.int .i64 p7,.int .i64 p8]) rfl rfl rfl (Src.r 0 rfl) rfl rfl ob) ?_;apply Y 0x41e760f34e;intro BA;apply Y 0x4a600fb3e32c;refine aL (fk f a hok hh (y.us.getD p1.toNat 0) (List.replicate f.size 255) BA f.size f.size List.length_replicate oe) ?_;apply Y 0x19;intro XA xc;apply Y 0xf2e694a;refine aL (eJ f a hok hh y G U V gc uc vc hyn hyl hcap (aO f (y.us.getD p1.toNat 0) (List.replicate f.size 255)) XA xc [p0,(p1+1),p2,p3,p4,p5,p6,p7,p8] rfl) ?_;apply Y 0x19;intro TO tc;apply Zu 0x25ecce88afc6b4de34a
 ·exact Zm 0x24d3f
 exact Zm 0x24d3f
end Go.Proofs.YtbpddeiogcgegaaGreat
