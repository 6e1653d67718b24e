/-
  Part of a proof.
-/
import Derived.Test.YtbpddeiogcgegaaGreatYIh
set_option maxHeartbeats 0
set_option maxRecDepth 4000
set_option linter.all false
namespace Go.Proofs.YtbpddeiogcgegaaGreat
open Go.Sl
theorem gB {f:Fl}{y:Lay}:fg f y=true↔f.Ok∧38≤f.size∧1≤y.n∧y.n≤(f.data.length:Int)∧1≤y.gs.length∧y.gs.length≤8∧(∀ x∈y.rest,y.n≤x∧x<(f.data.length:Int))∧y.rest.Nodup:=by
 unfold fg;rw [Bool.and_eq_true,decide_eq_true_eq,decide_eq_true_eq]
section
variable {f:Fl}{y:Lay}{p:Pln}{s:List Int}
theorem JU (h:(p.need ((eQ f y.n).take p.inn.toNat)).1≠0):ff f y s p=nxE (p.need ((eQ f y.n).take p.inn.toNat)).1:=if_pos h
theorem JT (h:(p.need ((eQ f y.n).take p.inn.toNat)).1=0)(h2:(p.need ((eQ f y.n).take p.inn.toNat)).2.u>(y.us.length:Int)):ff f y s p=nxE 191:=by
 unfold ff;rw [if_neg (fun q=>q h),if_pos h2]
theorem JS (h:(p.need ((eQ f y.n).take p.inn.toNat)).1=0)(h2:¬(p.need ((eQ f y.n).take p.inn.toNat)).2.u>(y.us.length:Int))(h3:sSt s≥(p.need ((eQ f y.n).take p.inn.toNat)).2.u):ff f y s p=b8 f y nxD ((s.set 0 2).set 1 0):=by
 unfold ff;rw [if_neg (fun q=>q h),if_neg h2,if_pos h3];exact Zm 0xd10f
theorem Al (h:(p.need ((eQ f y.n).take p.inn.toNat)).1=0)(h2:¬(p.need ((eQ f y.n).take p.inn.toNat)).2.u>(y.us.length:Int))(h3:¬sSt s≥(p.need ((eQ f y.n).take p.inn.toNat)).2.u):ff f y s p=b8 f y (aM f (y.us.getD (sSt s).toNat 0) (List.replicate f.size 255)) (s.set 1 (sSt s+1)):=by
 unfold ff;rw [if_neg (fun q=>q h),if_neg h2,if_neg h3]
end
section
variable {f:Fl}{y:Lay}{p:Pln}{s:List Int}{c:List UInt8}{t:Int}
theorem Jv (h:sSt s≥(p.st.length:Int)):gN f y s p=b8 f y nxD ((s.set 0 3).set 1 0):=by
 unfold gN;rw [if_pos h];exact Zm 0xd10f
theorem yY (h:¬sSt s≥(p.st.length:Int)):gN f y s p=b8 f y (aM f (y.ls.getD (sSt s).toNat 0) (av f (p.st.getD (sSt s).toNat 0))) (s.set 1 (sSt s+1)):=if_neg h
theorem NJ (h:sSg s≥(y.gs.length:Int)):sgF f y s c=nxE 220:=if_pos h
theorem JB (h:¬sSg s≥(y.gs.length:Int))(h2:(aM f (y.gs.getD (sSg s).toNat 0) c).e=171∨(aM f (y.gs.getD (sSg s).toNat 0) c).e=172)(h3:sSg s+1<(y.gs.length:Int)):sgF f y s c=b8 f y nxD (s.set 6 (sSg s+1)):=by
 unfold sgF;rw [if_neg h,if_pos ⟨h2,h3⟩];exact Zm 0xd10f
theorem xB (h:¬sSg s≥(y.gs.length:Int))(h2:¬(((aM f (y.gs.getD (sSg s).toNat 0) c).e=171∨(aM f (y.gs.getD (sSg s).toNat 0) c).e=172)∧sSg s+1<(y.gs.length:Int))):sgF f y s c=b8 f y (aM f (y.gs.getD (sSg s).toNat 0) c) (s.set 2 (sSb s+1)):=by
 unfold sgF;rw [if_neg h,if_neg h2]
theorem NU (h:sSg s≥(y.gs.length:Int)):plF f y s t=nxE 220:=if_pos h
theorem NT (h:¬sSg s≥(y.gs.length:Int)):plF f y s t=aM f t (av f (y.gs.getD (sSg s).toNat 0)):=if_neg h
theorem Pi {N:Int}(h1:1≤y.n)(h:∀ x∈y.rest,y.n≤x∧x<N){i:Nat}(hi:i<y.gs.length):0≤y.gs.getD i 0∧y.gs.getD i 0<N:=by
 have:=h (y.gs.getD i 0) (by
  have:=kW hi
  unfold Lay.rest;rw [List.mem_append,List.mem_append,List.mem_append]
  exact .inl (.inl (.inr this)))
 omega
end
theorem Bb {f:Fl}{y:Lay}(h:fg f y=true):UOk f y.us:=by
 obtain ⟨ok,_,h1,_,_,_,h5,h6⟩:=gB.1 h;have hin:∀ x∈y.us,x∈y.rest:=fun x hx=>by
  unfold Lay.rest;rw [List.mem_append,List.mem_append]
  exact .inl (.inr hx)
 have hnd:y.us.Nodup:=by
  unfold Lay.rest at h6
  exact (List.nodup_append.1 (List.nodup_append.1 h6).1).2.1
 refine ⟨?_,fun s hs=>?_⟩
 ·have hsub:y.us ⊆ (List.range f.data.length).map Int.ofNat:=fun x hx=>by
   have:=h5 x (hin x hx)
   exact List.mem_map.2 ⟨x.toNat,List.mem_range.2 oe,by show ((x.toNat:Nat):Int)=x;omega⟩
  have:=hnd.length_le_of_subset hsub;rw [List.length_map,List.length_range] at this
  exact Nat.le_trans this ok.n2
 have:=h5 _ (hin _ (kW hs))
 omega
theorem Bc {A:List UInt8}{z e:Int}(h:(bG A z e).e=0):5≤(bG A z e).b.length∧(bG A z e).b.length≤65535:=by
 by_cases hB:cx A z e
 ·rw [r9 hB] at h
  cases h
 rw [jV hB];have hb:=mO (A.drop (e.toNat-2))
 unfold cx at hB;have h1:e.toNat≤A.length:=oe;have hl:=sa (A:=A) (e:=e.toNat) h1 oe
 show 5≤(fa A e.toNat).length∧(fa A e.toNat).length≤65535
 cases hp:bS (fa A e.toNat) z with
 |none=>exact absurd (.inr (.inr (.inr hp))) hB
 |some ps=>
  have:=(kN hp).1
  omega
theorem zP (b rec:List UInt8):(vx b rec).length≤b.length:=by
 by_cases h:dq b rec
 ·rw [nu h];exact Zm 0xc1e
 cases hp:bS rec (b.length:Int) with
 |none=>exact absurd (.inl hp) h
 |some ps=>
  unfold dq at h;rw [nt hp oe oe];have:=mR hp ps.length (Nat.le_refl _);rw [List.take_length] at this
  exact Nat.le_of_eq this
section
variable {f:Fl}{y:Lay}{p:Pln}{s:List Int}
theorem Ji (h:sSt s≥(p.seq.length:Int)):dD f y s p=b8 f y nxD ((s.set 0 4).set 1 0):=by
 unfold dD;rw [if_pos h];exact Zm 0xd10f
theorem Jh (h:¬sSt s≥(p.seq.length:Int))(h2:sSb s>2):dD f y s p=nxE 240:=by
 unfold dD;rw [if_neg h,if_pos h2]
theorem yw (h:¬sSt s≥(p.seq.length:Int))(h2:¬sSb s>2)(h3:sSb s=2):dD f y s p=b8 f y (plF f y s (p.seq.getD (sSt s).toNat 0)) ((s.set 1 (sSt s+1)).set 2 0):=by
 unfold dD;exact Zm 0x5b0f
theorem Jg (h:¬sSt s≥(p.seq.length:Int))(h2:¬sSb s>2)(h3:¬sSb s=2)(h4:p.cntE f y (sSt s)≠0):dD f y s p=nxE (p.cntE f y (sSt s)):=by
 unfold dD;rw [if_neg h,if_neg h2,if_neg h3,if_pos h4]
theorem Jf (h:¬sSt s≥(p.seq.length:Int))(h2:¬sSb s>2)(h3:¬sSb s=2)(h4:p.cntE f y (sSt s)=0)(h5:sSb s=1):dD f y s p=sgF f y s (p.cntV f y (sSt s)):=by
 unfold dD;rw [if_neg h,if_neg h2,if_neg h3,if_neg (fun q=>q h4),if_pos h5]
theorem yv (h:¬sSt s≥(p.seq.length:Int))(h2:¬sSb s>2)(h3:¬sSb s=2)(h4:p.cntE f y (sSt s)=0)(h5:¬sSb s=1):dD f y s p=b8 f y (towS f y.us (sUn s) (iQ (p.seq.getD (sSt s).toNat 0) (av f (p.seq.getD (sSt s).toNat 0)) (p.cntV f y (sSt s)))) ((s.set 2 1).set 3 (sUn s+((iQ (p.seq.getD (sSt s).toNat 0) (av f (p.seq.getD (sSt s).toNat 0)) (p.cntV f y (sSt s))).length:Int))):=by
 unfold dD;rw [if_neg h,if_neg h2,if_neg h3,if_neg (fun q=>q h4),if_neg h5]
theorem KQ (h:sUn s=0):dP f y s=b8 f y nxD (RT s):=by
 unfold dP;rw [if_pos h];exact Zm 0xd10f
theorem KP (h:¬sUn s=0)(h2:sSb s>1):dP f y s=nxE 240:=by
 unfold dP;rw [if_neg h,if_pos h2]
theorem KO (h:¬sUn s=0)(h2:¬sSb s>1)(h3:(l3 f y s).e≠0):dP f y s=nxE (l3 f y s).e:=by
 unfold dP;exact Zm 0x5b0f
theorem KN (h:¬sUn s=0)(h2:¬sSb s>1)(h3:(l3 f y s).e=0)(h4:l8 f y s≥y.n):dP f y s=nxE 210:=by
 unfold dP;rw [if_neg h,if_neg h2,if_neg (fun q=>q h3),if_pos h4]
theorem Cp (h:¬sUn s=0)(h2:¬sSb s>1)(h3:(l3 f y s).e=0)(h4:¬l8 f y s≥y.n)(h5:sSb s=1):dP f y s=b8 f y (plF f y s (l8 f y s)) ((s.set 2 0).set 3 (l3 f y s).at_):=by
 unfold dP;rw [if_neg h,if_neg h2,if_neg (fun q=>q h3),if_neg h4,if_pos h5]
theorem KM (h:¬sUn s=0)(h2:¬sSb s>1)(h3:(l3 f y s).e=0)(h4:¬l8 f y s≥y.n)(h5:¬sSb s=1)(h6:resE (av f (l8 f y s)) (l3 f y s).b≠0):dP f y s=nxE (resE (av f (l8 f y s)) (l3 f y s).b):=by
 unfold dP;rw [if_neg h,if_neg h2,if_neg (fun q=>q h3),if_neg h4,if_neg h5,if_pos h6]
theorem KL (h:¬sUn s=0)(h2:¬sSb s>1)(h3:(l3 f y s).e=0)(h4:¬l8 f y s≥y.n)(h5:¬sSb s=1)(h6:resE (av f (l8 f y s)) (l3 f y s).b=0):dP f y s=sgF f y s (vx (av f (l8 f y s)) (l3 f y s).b):=by
 unfold dP;rw [if_neg h,if_neg h2,if_neg (fun q=>q h3),if_neg h4,if_neg h5,if_neg (fun q=>q h6)]
end
theorem nine {s:List Int}(h:s.length=9):∃ p0 p1 p2 p3 p4 p5 p6 p7 p8,s=[p0,p1,p2,p3,p4,p5,p6,p7,p8]:=by
 match s,h with
 |[a,b,c,d,e,f,g,h,i],_=>exact ⟨a,b,c,d,e,f,g,h,i,rfl⟩
theorem Kt {f:Fl}{y:Lay}{s:List Int}{k:Pkg}{h:Bool}(e:fitE f y s k h=0):PlnFit f y k.pl:=by
 unfold fitE at e
 split at e
 ·cases e
 split at e
 ·cases e
 split at e
 ·cases e
 rename_i h1 h2 h3;refine ⟨by simpa using h2,?_,?_,?_⟩
 ·by_cases q:k.pl.sz=(f.size:Int)
  ·exact q
  exact absurd (.inl q) h3
 ·by_cases q:k.pl.n=y.n
  ·exact q
  exact absurd (.inr (.inl q)) h3
 by_cases q:(k.pl.st.length:Int)>(y.ls.length:Int)
 ·exact absurd (.inr (.inr q)) h3
 omega
section
variable {f:Fl}{y:Lay}{k:Pkg}{h:Bool}{s:List Int}
theorem Pg (hl:fg f y=false):aU f y k h=nxE 220:=if_pos hl
theorem Pf (hl:fg f y=true)(e:(a6 f y.a y.b).2.2≠0):aU f y k h=nxE (a6 f y.a y.b).2.2:=by
 unfold aU;rw [if_neg (by rw [hl];decide),if_pos e]
theorem Pe (hl:fg f y=true)(e:(a6 f y.a y.b).2.2=0)(hs:(a6 f y.a y.b).1=s)(h1:sPh s=0∨sPh s=4∨sPh s=5):aU f y k h=nxD:=by
 rw [du hl e hs,if_pos h1]
theorem Pd (hl:fg f y=true)(e:(a6 f y.a y.b).2.2=0)(hs:(a6 f y.a y.b).1=s)(h1:sPh s=6):aU f y k h=dP f y s:=by
 rw [du hl e hs,if_neg oe,if_pos h1]
theorem Pb (hl:fg f y=true)(e:(a6 f y.a y.b).2.2=0)(hs:(a6 f y.a y.b).1=s)(h1:sPh s>6):aU f y k h=nxE 240:=by
 rw [du hl e hs,if_neg oe,if_neg oe,if_pos h1]
theorem Pa (hl:fg f y=true)(e:(a6 f y.a y.b).2.2=0)(hs:(a6 f y.a y.b).1=s)(h1:¬(sPh s=0∨sPh s=4∨sPh s=5)∧¬sPh s=6∧¬sPh s>6)(h2:fitE f y s k h≠0):aU f y k h=nxE (fitE f y s k h):=by
 rw [du hl e hs,if_neg h1.1,if_neg h1.2.1,if_neg h1.2.2,if_pos h2]
theorem On (hl:fg f y=true)(e:(a6 f y.a y.b).2.2=0)(hs:(a6 f y.a y.b).1=s)(h2:fitE f y s k h=0)(h1:sPh s=1):aU f y k h=ff f y s k.pl:=by
 rw [du hl e hs,if_neg oe,if_neg oe,if_neg oe,if_neg (fun q=>q h2),if_pos h1]
theorem N9 (hl:fg f y=true)(e:(a6 f y.a y.b).2.2=0)(hs:(a6 f y.a y.b).1=s)(h2:fitE f y s k h=0)(h1:sPh s=2):aU f y k h=gN f y s k.pl:=by
 rw [du hl e hs,if_neg oe,if_neg oe,if_neg oe,if_neg (fun q=>q h2),if_neg oe,if_pos h1]
theorem N8 (hl:fg f y=true)(e:(a6 f y.a y.b).2.2=0)(hs:(a6 f y.a y.b).1=s)(h2:fitE f y s k h=0)(h1:¬(sPh s=0∨sPh s=4∨sPh s=5)∧¬sPh s=6∧¬sPh s>6)(h3:¬sPh s=1)(h4:¬sPh s=2):aU f y k h=dD f y s k.pl:=by
 rw [du hl e hs,if_neg h1.1,if_neg h1.2.1,if_neg h1.2.2,if_neg (fun q=>q h2),if_neg h3,if_neg h4]
end
def C4 (s:List Int):Prop:=∀ x∈s,0≤x∧x≤4294967295
theorem Iy (b:List UInt8):C4 (wL b):=by
 intro x hx
 unfold wL at hx;obtain ⟨p,hp,rfl⟩:=List.mem_map.1 hx;have hw:p.2≤4:=by
  have h1:∀ q∈Mz.zip wds,q.2≤4:=ob
  exact h1 p hp
 have h2:=tC ((b.drop p.1).take p.2);have h3:((b.drop p.1).take p.2).length≤4:=Oq;have h4:(256^((b.drop p.1).take p.2).length:Nat)≤4294967296:=Nat.le_trans (Nat.pow_le_pow_right ob h3) ob
 omega
theorem yW {l:List UInt8}{s:List Int}(h:cm l=some s):C4 s:=by
 unfold cm at h
 split at h
 ·injection h with h
  rw [← h]
  exact Iy _
 cases h
theorem Dj {row:List UInt8}{x:Lg}{i:Nat}(h:C4 x.s):C4 (stepL row x i).s:=by
 unfold stepL
 split
 ·exact h
 split
 ·rename_i hs
  exact yW hs
 exact h
theorem vp {row:List UInt8}{x:Lg}(h:C4 x.s):∀ k,C4 (bN row x k).s
  |0=>h
  |k+1=>by
    rw [bp]
    exact Dj (vp h k)
theorem tx:C4 (List.replicate 9 0):=fun x hx=>by
  rw [(List.mem_replicate.1 hx).2]
  decide
theorem vJ (f:Fl)(a b:Int):C4 (ax f a b).s:=by
 unfold ax
 split<;>exact tx
theorem ET (f:Fl)(a b:Int):C4 (aY f a b).s:=by
 unfold aY
 split
 ·split
  ·exact vJ f a b
  exact vp (vJ f a b) _
 exact tx
theorem D7 (f:Fl)(a b:Int):C4 (a6 f a b).1:=by
 unfold a6
 split
 ·exact ET f a b
 exact tx
theorem cY {f:Fl}(ok:f.Ok){y:Lay}{x:Nx}{s:List Int}(h:x.x.data.length≤1000000):(b8 f y x s).x.data.length≤1000000:=by
 unfold b8
 split
 ·exact h
 exact Zm 0xbee
theorem Df (f:Fl)(us:List Int)(at_:Int)(b:List UInt8):(towS f us at_ b).x.data.length≤b.length:=by
 unfold towS
 split
 ·exact Zm 0xc1e
 split
 ·exact Zm 0xc1e
 split
 ·exact Zm 0xc1e
 split
 ·exact Zm 0xc1e
 show (bJ b _ _ _).length≤b.length
 unfold bJ;apply Y 0xaa0f
 omega
theorem tJ {f:Fl}(ok:f.Ok)(t:Int):(av f t).length≤1000000:=ok.sm.r _
theorem IC {f:Fl}{y:Lay}{p:Pln}{k:Int}:(p.cntV f y k).length≤4096:=by
 unfold Pln.cntV
 by_cases e:cntE p.lf p.sz p.n p.inn p.out p.ops p.seq p.st f.data (f.size:Int) y.n y.ls k=0
 ·rw [n7 e]
  unfold Gz;rw [bU];have hv:fM p.lf p.sz p.n p.inn p.out p.ops p.seq p.st=true:=by
   cases hv:fM p.lf p.sz p.n p.inn p.out p.ops p.seq p.st with
   |true=>rfl
   |false=>rw [GC hv] at e;cases e
  have:=dt.1 (fm.1 hv).2.2.1
  omega
 rw [n8 e];exact Zm 0xc1e
theorem zl {f:Fl}(ok:f.Ok){y:Lay}{s:List Int}{c:List UInt8}(h:c.length≤1000000):(sgF f y s c).x.data.length≤1000000:=by
 unfold sgF
 split
 ·exact Zm 0xc1e
 split
 ·exact Zm 0xbee
 exact cY ok (Nat.le_trans (gQ _ _ _) h)
theorem Ao {f:Fl}(ok:f.Ok){y:Lay}{s:List Int}{t:Int}:(plF f y s t).x.data.length≤1000000:=by
 unfold plF
 split
 ·exact Zm 0xc1e
 exact Nat.le_trans (gQ _ _ _) (tJ ok _)
theorem Ef {f:Fl}(ok:f.Ok){y:Lay}{s:List Int}{p:Pln}:(ff f y s p).x.data.length≤1000000:=by
 unfold ff
 split
 ·exact Zm 0xc1e
 split
 ·exact Zm 0xc1e
 split
 ·exact Zm 0xbee
 refine cY ok (Nat.le_trans (gQ _ _ _) ?_);rw [List.length_replicate]
 exact Nat.le_trans ok.s2 ob
theorem Dn {f:Fl}(ok:f.Ok){y:Lay}{s:List Int}{p:Pln}:(gN f y s p).x.data.length≤1000000:=by
 unfold gN
 split
 ·exact Zm 0xbee
 exact cY ok (Nat.le_trans (gQ _ _ _) (tJ ok _))
theorem C6 {f:Fl}(ok:f.Ok){y:Lay}{s:List Int}{p:Pln}:(dD f y s p).x.data.length≤1000000:=by
 unfold dD
 split
 ·exact Zm 0xbee
 split
 ·exact Zm 0xc1e
 split
 ·exact cY ok (Ao ok)
 split
 ·exact Zm 0xc1e
 split
 ·exact zl ok (Nat.le_trans IC ob)
 exact cY ok (Nat.le_trans (Df _ _ _ _) (Nat.le_trans (ny _ _ _) ob))
theorem Fp {f:Fl}(ok:f.Ok){y:Lay}{s:List Int}:(dP f y s).x.data.length≤1000000:=by
 unfold dP
 split
 ·exact Zm 0xbee
 split
 ·exact Zm 0xc1e
 split
 ·exact Zm 0xc1e
 split
 ·exact Zm 0xc1e
 split
 ·exact cY ok (Ao ok)
 split
 ·exact Zm 0xc1e
 exact zl ok (Nat.le_trans (zP _ _) (tJ ok _))
theorem nX {f:Fl}(ok:f.Ok)(y:Lay)(k:Pkg)(h:Bool):(aU f y k h).x.data.length≤1000000:=by
 unfold aU
 split
 ·exact Zm 0xc1e
 split
 ·exact Zm 0xc1e
 split
 ·exact Zm 0xc1e
 split
 ·exact Fp ok
 split
 ·exact Zm 0xc1e
 split
 ·exact Zm 0xc1e
 split
 ·exact Ef ok
 split
 ·exact Dn ok
 exact C6 ok
section
variable {f:Fl}{y:Lay}{k:Pkg}{h:Bool}{m:Nat}
theorem rh (e:(aU f y k h).e≠0∨(aU f y k h).done=true):aK y k h (m+1) f=⟨f,0,(aU f y k h).e⟩:=by
 rw [aK,if_pos e]
theorem DN (e:(aU f y k h).e=0)(d:(aU f y k h).done=false)(c:ao f (aU f y k h).x≠0):aK y k h (m+1) f=⟨f,0,ao f (aU f y k h).x⟩:=by
 rw [aK,if_neg oaD,if_pos c]
theorem Hm (e:(aU f y k h).e=0)(d:(aU f y k h).done=false)(c:ao f (aU f y k h).x=0):aK y k h (m+1) f=⟨(aK y k h m (aS f (aU f y k h).x (fun _=>255))).f,(aK y k h m (aS f (aU f y k h).x (fun _=>255))).n+1,(aK y k h m (aS f (aU f y k h).x (fun _=>255))).e⟩:=by
 rw [aK,if_neg oaD,if_neg (fun q=>q c),bz c]
end
def gd (e:Int):Value:=.iface 136 (.agg #[.int .i64 e])
theorem ep (e:Int):
    dU X 72 [.int .i64 e] [] [] (b5 [{ v:=(gd e),recovered:=false }] (fun v R' H'=>v=.tuple #[]∧e=0∧R'=[]∧H'=[]) (fun R' H'=>e≠0∧R'=[]∧H'=[])):=by
 refine dU.of (X:=X) (fn:=Tryz.f72) Tryz.func72 rfl oa rfl ?_;intro β;apply Zu 0x5d2d<;>intro hc3
 ·apply Y 0xfd2fe3ca8a;exact ⟨hc3,rfl,rfl⟩
 apply Y 0xa4ed9;refine fJ (js:=[]) (hs:=[]) (vs:=[]) rfl trivial ob ?_;exact ⟨rfl,hc3,rfl,rfl⟩
theorem JH (β:Base)(A8 A9 A10:Option Addr)(e:Int)(Q:Exit→Act→World→Prop)(h:∀ Γ,QE β 20 [] Q .normal Γ [] [Own 60 4 A8 1 1 [.int .i64 0,.int .i64 0,.int .i64 0,.slice none 0 0],Own 4 1 A9 1 1 [.bool false],Own 53 1 A10 1 1 [.int .i64 e]]):
    C X β 20 [] Q (match Tryz.f70.body with|some (.seq _ b)=>b|_=>.skip) [(3,(gd e)),(6,(gd e)),(0,ag A8 0),(1,ag A9 0),(2,ag A10 0)] [] [Own 60 4 A8 1 1 [.int .i64 0,.int .i64 0,.int .i64 0,.slice none 0 0],Own 4 1 A9 1 1 [.bool false],Own 53 1 A10 1 1 [.int .i64 0]]:=by
 apply Y 0x48;refine sp (pH rfl rfl rfl) ?_;apply Zu 0xe9f8<;>intro hc8
 ·apply Y 0x48;refine sp (GN rfl rfl rfl) ?_;apply Y 0x88c8;intro A4;apply Zu 0xe92d28f4e<;>intro hc15
  ·cases hc15
  apply Y 0xe8;refine cfz 3 [0,1,2] ?_;apply Y 0x420f;refine mq 0 rfl (Ev.build rfl rfl rfl rfl rfl rfl rfl) ?_;apply Y 0x330f;refine mq 2 rfl (ldR 0) ?_;refine mfo 3 ?_;apply Y 0x70e97e380fc9ac78e659;refine QE.le (Γ':=[]) (R':=[]) (H':=[Own 60 4 A8 1 1 [.int .i64 0,.int .i64 0,.int .i64 0,.slice none 0 0],Own 4 1 A9 1 1 [.bool false],Own 53 1 A10 1 1 [.int .i64 e]]) (aE (rs:=[]) (hs:=[0,1,2]) trivial trivial rt ob) (h _)
 cases hc8
theorem Kp (β:Base)(A8 A9 A10:Option Addr)(Q:Exit→Act→World→Prop)(h:∀ Γ,QE β 20 [] Q .normal Γ [] []):
    C X β 20 [] Q (match Tryz.f70.body with|some (.seq _ b)=>b|_=>.skip) [(3,.nilIface),(6,.nilIface),(0,ag A8 0),(1,ag A9 0),(2,ag A10 0)] [] []:=by
 apply Y 0x48;refine sp (lX rfl rfl rfl) ?_;apply Zu 0xe9f8<;>intro hc8
 ·cases hc8
 apply Y 0xd9
 exact h _
theorem RS (v p q r:Value):Fr 20 [] { tmps:=#[p,q,r]++((Array.replicate 17 undef).setIfInBounds 3 v).setIfInBounds 0 v,defers:=[] } [(3,v),(6,v),(0,p),(1,q),(2,r)]:=by
 refine Mo oa fun x hx=>?_
 simp only [List.mem_cons,List.not_mem_nil,or_false] at hx
 rcases hx with rfl|rfl|rfl|rfl|rfl<;>kernel_rfl
theorem NM (w:World):Sat ⟨w,fun _=>False,fun _=>False⟩ w [] []:=⟨⟨rfl,rfl,rfl,Nat.le_refl _,fun _ _ _=>rfl⟩,by simp,by simp,by simp,by simp,by simp,by simp⟩
theorem nC (A8 A9 A10:Option Addr)(e:Int):RecW X.P 70 #[ag A8 0,ag A9 0,ag A10 0] (gd e) [Own 60 4 A8 1 1 [.int .i64 0,.int .i64 0,.int .i64 0,.slice none 0 0],Own 4 1 A9 1 1 [.bool false],Own 53 1 A10 1 1 [.int .i64 0]] [Own 60 4 A8 1 1 [.int .i64 0,.int .i64 0,.int .i64 0,.slice none 0 0],Own 4 1 A9 1 1 [.bool false],Own 53 1 A10 1 1 [.int .i64 e]]:=by
 refine ⟨fun w=>?_,fun w=>?_,fun w hD=>?_⟩
 ·have hf:X.P.funcs[70]?=some Tryz.f70:=Tryz.func70;have hb:Tryz.f70.body.isNone=false:=rfl;have hname:(Tryz.f70.name== "runtime.NumGoroutine")=false:=rfl
  simp only [beq_eq_false_iff_ne] at hname;apply Y 0xc51f;intro h;rw [h] at hb
  cases hb
 ·refine callsD_of_wpS (P:=X.P) Tryz.func70 rfl fun c₀ cs hu=>?_
  apply wpS_seq
  apply wpS_region;apply Y 0xb00f;refine wpS_of_wp (Kp _ A8 A9 A10 _ (fun Γ a' w' hf' hs'=>?_) _ w (RS .nilIface _ _ _) (NM w));apply Y 0xe40f;intro hst;apply Y 0x3ee;intro hd
  cases c₀
  simp only at hu;subst hu;exact Zm 0xc00f
 refine callsD_of_wpS (P:=X.P) Tryz.func70 rfl fun c₀ cs hu=>?_
 apply wpS_seq
 apply wpS_region;apply Y 0xb00f;refine wpS_of_wp (JH _ A8 A9 A10 e _ (fun Γ a' w' hf' hs'=>?_) _ w (RS (gd e) _ _ _) hD);apply Y 0x3ee;intro hd
 cases c₀
 simp only at hu;subst hu
 simp [bodyPostS,results,hd]
 exact hs'
def rxo (x:Fo)(d:Bool):Fo:=if d=true then fo0 else x
def rO (d:Bool)(A:Option Addr):Option Addr:=if d=true then none else A
def rC (d:Bool)(c:Nat):Nat:=if d=true then 0 else c
theorem de {f:Fl}{a:Fa}{y:Lay}{G U V:Option Addr}{gc uc vc:Nat}{p0 p1 p2 p3 p4 p5 p6 p7 p8:Int}{k:Pkg}{rv:Value}{OA QA HA:Option Addr}{oc qc hc:Nat}{M:Option Addr}{x:Fo}{XA:Option Addr}{xc:Nat}{d:Bool}(h:d=true):
    Own 140 38 M 1 1 (mcA f a y G U V gc uc vc (.int .i64 p0::.int .i64 p1::.int .i64 p2::.int .i64 p3::.int .i64 p4::.int .i64 p5::.int .i64 p6::.int .i64 p7::.int .i64 p8::mcK k OA QA HA oc qc hc (rv::.int .i64 (rxo x d).kind::.int .i64 (rxo x d).sec::.int .i64 (rxo x d).at_::.slice (rO d XA) (rxo x d).data.length (rC d xc)::.bool (!d)::[])))=Own 140 38 M 1 1 (mcA f a y G U V gc uc vc (.int .i64 p0::.int .i64 p1::.int .i64 p2::.int .i64 p3::.int .i64 p4::.int .i64 p5::.int .i64 p6::.int .i64 p7::.int .i64 p8::mcK k OA QA HA oc qc hc (rv::.int .i64 0::.int .i64 0::.int .i64 0::.slice none 0 0::.bool false::[]))):=by
 subst h
 rfl
theorem mD (f:Fl)(a:Fa)(ok:f.Ok)(hh:a.hs.length=f.data.length)(y:Lay)(G U V:Option Addr)(gc uc vc:Nat)(hyn: -1000000≤y.n∧y.n≤1000000)(hyl:y.gs.length≤1000∧y.us.length≤1000∧y.ls.length≤1000)(hcap:Caps f a)(p0 p1 p2 p3 p4 p5 p6 p7 p8:Int)(hp:∀ x∈[p0,p1,p2,p3,p4,p5,p6,p7,p8],0≤x∧x≤4294967295)(k:Pkg)(rv:Value)(OA QA HA:Option Addr)(oc qc hc:Nat)(hpl:k.pl.ops.length≤9223372036854775807∧k.pl.seq.length≤1000000∧k.pl.st.length≤1000000)(M:Option Addr)(x:Fo)(XA:Option Addr)(xc:Nat)(d:Bool)(e:Int):
    dU X 185 [ag M 0,.agg (List.toArray [.int .i64 x.kind,.int .i64 x.sec,.int .i64 x.at_,.slice XA x.data.length xc]),.bool d,.int .i64 e] [Rd XA (U8 x.data)] [Own 140 38 M 1 1 (mcA f a y G U V gc uc vc (.int .i64 p0::.int .i64 p1::.int .i64 p2::.int .i64 p3::.int .i64 p4::.int .i64 p5::.int .i64 p6::.int .i64 p7::.int .i64 p8::mcK k OA QA HA oc qc hc (rv::.int .i64 0::.int .i64 0::.int .i64 0::.slice none 0 0::.bool false::[])))] (b5 [{ v:=(gd e),recovered:=false }] (fun v R' H'=>e=0∧v=.bool d∧R'=[Rd (rO d XA) (U8 (rxo x d).data)]∧H'=[Own 140 38 M 1 1 (mcA f a y G U V gc uc vc (.int .i64 p0::.int .i64 p1::.int .i64 p2::.int .i64 p3::.int .i64 p4::.int .i64 p5::.int .i64 p6::.int .i64 p7::.int .i64 p8::mcK k OA QA HA oc qc hc (rv::.int .i64 (rxo x d).kind::.int .i64 (rxo x d).sec::.int .i64 (rxo x d).at_::.slice (rO d XA) (rxo x d).data.length (rC d xc)::.bool (!d)::[])))]) (fun R' H'=>e≠0∧R'=[]∧H'=[])):=by
 apply Y 0xc2e;intro hok;obtain ⟨os1,os2,on1,on2,owl,odl,orows,ol1,ol2,owear⟩:=ok;apply Y 0xd9e;intro hp0;apply Y 0xe9e;intro hp1;apply Y 0xf9e;intro hp2;apply Y 0x1ae;intro hp3;apply Y 0x2ae;intro hp4;apply Y 0x3ae;intro hp5;apply Y 0x4ae;intro hp6;apply Y 0x5ae;intro hp7;apply Y 0x6ae;intro hp8;refine dU.of (X:=X) (fn:=Tryz.f185) Tryz.func185 rfl oa rfl ?_;intro β;apply Y 0x2a;intro A5;apply Y 0x8aa0e14e28;refine bf (js:=[]) (js':=[0]) (ep e) rfl rfl rfl ob trivial rfl ?_ ?_
 rotate_left;apply Y 0x98;intro he;apply Y 0xc9e;exact ⟨he,rfl,rfl⟩;apply Y 0x1a;intro he;apply Zu 0xe92d7b3c<;>intro hc12
 ·apply Y 0x7cf8ece994c59994cf5e3b;refine fJ (js:=[1]) (hs:=[0]) (vs:=[_]) rfl rt ob ?_;obtain rfl:d=false:=by simpa using hc12
  exact ⟨he,rfl,rfl,rfl⟩
 apply Y 0x121f80e7ce8;obtain rfl:d=true:=by simpa using hc12
 exact ⟨he,rfl,rfl,rfl⟩
theorem dI (f:Fl)(a:Fa)(ok:f.Ok)(hh:a.hs.length=f.data.length)(y:Lay)(G U V:Option Addr)(gc uc vc:Nat)(hyn: -1000000≤y.n∧y.n≤1000000)(hyl:y.gs.length≤1000∧y.us.length≤1000∧y.ls.length≤1000)(hcap:Caps f a)(p0 p1 p2 p3 p4 p5 p6 p7 p8:Int)(hp:∀ x∈[p0,p1,p2,p3,p4,p5,p6,p7,p8],0≤x∧x≤4294967295)(k:Pkg)(rv:Value)(OA QA HA:Option Addr)(oc qc hc:Nat)(hpl:k.pl.ops.length≤9223372036854775807∧k.pl.seq.length≤1000000∧k.pl.st.length≤1000000)(M:Option Addr)(s:List Int)(hs:s.length=9):
    dU X 184 [ag M 0,.agg (List.toArray (st9 s))] (flR f a) [Own 140 38 M 1 1 (mcA f a y G U V gc uc vc (.int .i64 p0::.int .i64 p1::.int .i64 p2::.int .i64 p3::.int .i64 p4::.int .i64 p5::.int .i64 p6::.int .i64 p7::.int .i64 p8::mcK k OA QA HA oc qc hc (rv::.int .i64 0::.int .i64 0::.int .i64 0::.slice none 0 0::.bool false::[])))] (b5 [{ v:=(gd (aO f y.a y.b s).e),recovered:=false }] (fun v R' H'=>(aO f y.a y.b s).e=0∧∃ (OZ:Option Addr) (oz:Nat),v=.tuple #[]∧R'=[Rd OZ (U8 (rxo (aO f y.a y.b s).x (aO f y.a y.b s).done).data)]∧H'=[Own 140 38 M 1 1 (mcA f a y G U V gc uc vc (.int .i64 p0::.int .i64 p1::.int .i64 p2::.int .i64 p3::.int .i64 p4::.int .i64 p5::.int .i64 p6::.int .i64 p7::.int .i64 p8::mcK k OA QA HA oc qc hc (rv::.int .i64 (rxo (aO f y.a y.b s).x (aO f y.a y.b s).done).kind::.int .i64 (rxo (aO f y.a y.b s).x (aO f y.a y.b s).done).sec::.int .i64 (rxo (aO f y.a y.b s).x (aO f y.a y.b s).done).at_::.slice OZ (rxo (aO f y.a y.b s).x (aO f y.a y.b s).done).data.length oz::.bool (!(aO f y.a y.b s).done)::[])))]) (fun R' H'=>(aO f y.a y.b s).e≠0∧R'=[]∧H'=[])):=by
 apply Y 0xc2e;intro hok;obtain ⟨os1,os2,on1,on2,owl,odl,orows,ol1,ol2,owear⟩:=ok;apply Y 0xd9e;intro hp0;apply Y 0xe9e;intro hp1;apply Y 0xf9e;intro hp2;apply Y 0x1ae;intro hp3;apply Y 0x2ae;intro hp4;apply Y 0x3ae;intro hp5;apply Y 0x4ae;intro hp6;apply Y 0x5ae;intro hp7;apply Y 0x6ae;intro hp8;refine dU.of (X:=X) (fn:=Tryz.f184) Tryz.func184 rfl oa rfl ?_;intro β;apply Y 0x2a;intro A3;apply Y 0xa0e14ef8;refine dC [_,_,_,_,_,_] ⟨Has.r 0 rfl,Has.r 1 rfl,Has.r 2 rfl,Has.r 3 rfl,Has.r 4 rfl,Has.o 0 rfl,trivial⟩ RK ?_;apply Y 0xbaed2e;refine mq 2 rfl (nkR 5) ?_;refine mq 3 rfl (faR 5) ?_;refine mq 4 rfl (ab (vs:=(flL f a)) rfl rfl rfl (Src.r 5 rfl) rfl rfl ob) ?_;apply Y 0xc4e;refine mq 6 rfl (nkR 5) ?_;refine mq 7 rfl (faR 5) ?_;refine mq 8 rfl (ab (vs:=(hY y G U V gc uc vc)) rfl rfl rfl (Src.r 5 rfl) rfl rfl ob) ?_;refine mq 9 rfl (ab (vs:=(st9 s)) rfl rfl rfl (Src.r 0 rfl) rfl rfl ob) ?_;apply Y 0x69e;refine a8 (HO f a hok hh ⟨y.n,y.a,y.b,y.s0,y.s1,G,y.gs.length,gc,U,y.us.length,uc,V,y.ls.length,vc⟩ hcap s hs) ?_;apply Y 0x89;intro NO nc;apply Y 0x82ec93c5ebfee7e63c;refine bj (js:=[0]) (js':=[]) (mD f a hok hh y G U V gc uc vc hyn hyl hcap p0 p1 p2 p3 p4 p5 p6 p7 p8 hp k rv OA QA HA oc qc hc hpl M (aO f y.a y.b s).x NO nc (aO f y.a y.b s).done (aO f y.a y.b s).e) rfl rfl rfl ob hcx rfl ?_ ?_
 rotate_left;apply Y 0x98;intro hge;refine tj ?_;exact Zm 0x87efd;apply Y 0x21e;intro hge;apply Y 0x33ea4e70e3c;exact ⟨hge,rO (aO f y.a y.b s).done NO,rC (aO f y.a y.b s).done nc,rfl,rfl,rfl⟩
theorem ko (f:Fl)(a:Fa)(ok:f.Ok)(hh:a.hs.length=f.data.length)(y:Lay)(G U V:Option Addr)(gc uc vc:Nat)(hyn: -1000000≤y.n∧y.n≤1000000)(hyl:y.gs.length≤1000∧y.us.length≤1000∧y.ls.length≤1000)(hcap:Caps f a)(p0 p1 p2 p3 p4 p5 p6 p7 p8:Int)(hp:∀ x∈[p0,p1,p2,p3,p4,p5,p6,p7,p8],0≤x∧x≤4294967295)(k:Pkg)(rv:Value)(OA QA HA:Option Addr)(oc qc hc:Nat)(hpl:k.pl.ops.length≤9223372036854775807∧k.pl.seq.length≤1000000∧k.pl.st.length≤1000000)(M:Option Addr):
    dU X 228 [ag M 0] [Rd G (I64 y.gs),Rd U (I64 y.us),Rd V (I64 y.ls)] [Own 140 38 M 1 1 (mcA f a y G U V gc uc vc (.int .i64 p0::.int .i64 p1::.int .i64 p2::.int .i64 p3::.int .i64 p4::.int .i64 p5::.int .i64 p6::.int .i64 p7::.int .i64 p8::mcK k OA QA HA oc qc hc (rv::.int .i64 0::.int .i64 0::.int .i64 0::.slice none 0 0::.bool false::[])))] (b5 [{ v:=(gd 220),recovered:=false }] (fun v R' H'=>p6<(y.gs.length:Int)∧v=.int .i64 (y.gs.getD p6.toNat 0)∧R'=[]∧H'=[Own 140 38 M 1 1 (mcA f a y G U V gc uc vc (.int .i64 p0::.int .i64 p1::.int .i64 p2::.int .i64 p3::.int .i64 p4::.int .i64 p5::.int .i64 p6::.int .i64 p7::.int .i64 p8::mcK k OA QA HA oc qc hc (rv::.int .i64 0::.int .i64 0::.int .i64 0::.slice none 0 0::.bool false::[])))]) (fun R' H'=>p6≥(y.gs.length:Int)∧R'=[]∧H'=[])):=by
 apply Y 0xc2e;intro hok;obtain ⟨os1,os2,on1,on2,owl,odl,orows,ol1,ol2,owear⟩:=ok;apply Y 0xd9e;intro hp0;apply Y 0xe9e;intro hp1;apply Y 0xf9e;intro hp2;apply Y 0x1ae;intro hp3;apply Y 0x2ae;intro hp4;apply Y 0x3ae;intro hp5;apply Y 0x4ae;intro hp6;apply Y 0x5ae;intro hp7;apply Y 0x6ae;intro hp8;refine dU.of (X:=X) (fn:=Tryz.f228) Tryz.func228 rfl oa rfl ?_;intro β;apply Zu 0x1c9ab986ef2ef2e96ea986ef2ef2e96ea93d4da<;>intro
 ·apply Zu 0x670f68
  rotate_left;apply Y 0x98;intro he;apply Y 0xc9e;exact ⟨by omega,rfl,rfl⟩;rintro _ _ _ ⟨_,h,_⟩;exact Zm 0x77e
 apply Y 0x86ef2ef2e96ea986ef2ef2e96ea93daa;refine sq (ae (k:=p6.toNat) rfl rfl rfl rfl rfl rfl oe oe (Src.r 0 rfl) ow) ?_;apply Y 0x221f23e9aa92ce;exact ⟨by omega,rfl,rfl,rfl⟩
end Go.Proofs.YtbpddeiogcgegaaGreat
