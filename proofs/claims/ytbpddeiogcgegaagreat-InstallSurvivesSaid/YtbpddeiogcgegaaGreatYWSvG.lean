/-
  Part of a proof.
-/
import Derived.Lib.SlicesCompact
import Derived.Test.YtbpddeiogcgegaaGreatYWSvF
set_option maxHeartbeats 0
set_option maxRecDepth 4000
set_option linter.all false
namespace Go.Proofs.YtbpddeiogcgegaaGreat
open Go.Sl
theorem H9 (f:Fl)(a:Fa)(ok:f.Ok)(hh:a.hs.length=f.data.length){ln la lb l0 l1:Int}{GA VA:Option Addr}{gl gc vl vc:Nat}(us:List Int)(U:Option Addr)(uc:Nat)(hu:UOk f us)(e:Int):
    Ctr X 191 [flV f a,.agg (List.toArray [.int .i64 ln,.int .i64 la,.int .i64 lb,.int .i64 l0,.int .i64 l1,.slice GA gl gc,.slice U us.length uc,.slice VA vl vc]),.int .i64 e] (flR f a++[Rd U (I64 us)]) [] (fun v R' H'=>∃ A c,v=.tuple #[.slice A (bG (aR f us) (f.size:Int) e).b.length c,.int .i64 (bG (aR f us) (f.size:Int) e).at_,.int .i64 (bG (aR f us) (f.size:Int) e).e]∧R'=[Rd A (U8 (bG (aR f us) (f.size:Int) e).b)]∧H'=[]∧(bG (aR f us) (f.size:Int) e).b.length≤c):=by
 apply Y 0xc2e;intro hok;obtain ⟨os1,os2,on1,on2,owl,odl,orows,ol1,ol2,owear⟩:=ok;apply Y 0xb50f;intro hul;refine co Tryz.func191 ?_;intro β;apply Y 0x2a;intro A3;apply Y 0xdd;intro A4;apply Y 0x428fb8d285;refine jt 5 1 ?_;apply Y 0x193d868;refine lp [] [] (fun q:Nat×Option Addr×Nat=>[(2,.int .i64 e),(3,ag A3 0),(4,ag A4 0),(9,.slice q.2.1 (aR f (us.take q.1)).length q.2.2),(15,.slice U us.length uc),(16,.int .i64 (us.length:Int)),(17,.int .i64 (q.1:Int))]) (kz [_,_,_,_,_,_,_]) (fun q=>[Own 5 1 q.2.1 (aR f (us.take q.1)).length q.2.2 (U8 (aR f (us.take q.1)))]) (fun q=>q.1≤us.length) (fun q=>us.length-q.1) (0,none,0) (Nat.zero_le _) (lk [0,1,2,3,4,5,6] [0]) ?_;apply Y 0xb1e;intro k A c hk
 dsimp only at hk ⊢;apply Zu 0x1cda<;>intro
 ·have hk2:k<us.length:=oe;have hur:=hu.r k hk2;have hrow:=orows (us.getD k 0).toNat oe;have hal:=eW hok hu k oe;apply Y 0x1c0f;intro hkz;apply Y 0x281f;intro e1;apply Y 0xa52f249;refine sp (Ev.load rfl rfl rfl (Src.r 6 rfl) (aJ oe)) ?_;apply Y 0xce1f200f252f36b8a1;intro A27 cc27;apply Y 0x6d90e;refine QE.round (i:=(k,A,c)) ((k+1,A27,cc27)) ou ou (by exact lk [0,1,2,3,4,5,6] [0] ⟨rfl,rfl,rfl,QQ,rfl,rfl,rfl,trivial⟩ (hh:=⟨(congrArg some (ay Q6 oaM)),trivial⟩))
 apply Y 0x4469;obtain rfl:k=us.length:=oe;apply Y 0xc8ee4e;intro hAc;have hal:=j5 hok hu;apply Y 0x7c0f;intro hlz;have hnb:=mO ((aR f us).drop (e.toNat-2));apply Zu 0x601fc868<;>intro
 ·apply Y 0x1a8;refine C.cond rfl (fun _=>?_) (fun h=>by cases h);apply Y 0x80e4a58;have hL:cx (aR f us) (f.size:Int) e:=.inl oe;apply Y 0x830f;refine ⟨none,0,?_,?_,rfl,?_⟩
  ·apply Y 0x18e
   rfl
  ·apply Y 0x18e
   rfl
  exact Zm 0x83e18e
 apply Zu 0x782c2c<;>intro
 ·apply Y 0x80e4a58;have hL:cx (aR f us) (f.size:Int) e:=.inr (.inl oe);apply Y 0x830f;refine ⟨none,0,?_,?_,rfl,?_⟩
  ·apply Y 0x18e
   rfl
  ·apply Y 0x18e
   rfl
  exact Zm 0x83e18e
 apply Y 0xc0e3b15eaa;refine sp (Ev.cast (u:=.slice (bF A c (e.toNat-2) 1) ((aR f us).drop (e.toNat-2)).length (c-(e.toNat-2))) (bx (l:=e.toNat-2) rfl rfl rfl rfl rfl oe oe) oak) ?_;apply Y 0x88ca;intro A12;apply Y 0x2f859;refine L.more (r:=Rd (bF A c (e.toNat-2) 1) (U8 ((aR f us).drop (e.toNat-2)))) (bw (Has.r 0 rfl) c (e.toNat-2) hAc) ?_;refine bf (js:=[0]) (js':=[]) (eP 312 1 A12 [] (bF A c (e.toNat-2) 1) ((aR f us).drop (e.toNat-2)) (c-(e.toNat-2)) ot) rfl rfl rfl ob hcx rfl ?_ ?_
 rotate_left;apply Y 0x98;intro h42;rw [List.length_drop] at h42
 omega;apply Y 0x1a;intro h42;apply Y 0xb9b93d428;refine LQ.bool 46 rfl (imp of_decide_eq_true ?_) (imp of_decide_eq_false ?_)<;>intro
 ·apply Y 0x9aa938e8b8b;refine C.cond rfl (fun _=>?_) (fun h=>by cases h);apply Y 0x80e4a58;have hL:cx (aR f us) (f.size:Int) e:=.inr (.inr (.inl oe));apply Y 0x830f;refine ⟨none,0,?_,?_,rfl,?_⟩
  ·apply Y 0x18e
   rfl
  ·apply Y 0x18e
   rfl
  exact Zm 0x83e18e
 have hlb:=sa (A:=(aR f us)) (e:=e.toNat) oe oe;apply Y 0x181d1d1d;refine sq (Ev.sub rfl rfl oe oe) ?_;apply Y 0x181d;refine sq (Ev.cast (u:=.slice (bF A c (e.toNat-(be2 ((aR f us).drop (e.toNat-2)))) 1) (fa (aR f us) e.toNat).length (c-(e.toNat-(be2 ((aR f us).drop (e.toNat-2)))))) (dB (l:=e.toNat-(be2 ((aR f us).drop (e.toNat-2)))) (h:=e.toNat) rfl rfl rfl rfl rfl rfl oe oe oe oe) O9) ?_;apply Y 0x18ade189de18;refine LQ.call (.bool (bS (fa (aR f us) e.toNat) (f.size:Int)).isSome) (Hy (bF A c (e.toNat-(be2 ((aR f us).drop (e.toNat-2)))) 1) (fa (aR f us) e.toNat) (c-(e.toNat-(be2 ((aR f us).drop (e.toNat-2))))) (f.size:Int) oe oe oe) (fun _ _ _ h=>h.1) rfl ⟨((Has.sub (Has.r 1 rfl) c (e.toNat-(be2 ((aR f us).drop (e.toNat-2)))) 1 (be2 ((aR f us).drop (e.toNat-2))) oO).cast oa7),trivial⟩ rfl ?_;apply Zu 0xe99ab918<;>intro hc57
 ·have hpn:bS (fa (aR f us) e.toNat) (f.size:Int)=none:=by simpa using hc57
  apply Y 0x80e4a58;have hL:cx (aR f us) (f.size:Int) e:=.inr (.inr (.inr hpn));apply Y 0x830f;refine ⟨none,0,?_,?_,rfl,?_⟩
  ·apply Y 0x18e
   rfl
  ·apply Y 0x18e
   rfl
  exact Zm 0x83e18e
 obtain ⟨ps,hps⟩:∃ ps,bS (fa (aR f us) e.toNat) (f.size:Int)=some ps:=Option.isSome_iff_exists.1 (by simpa using hc57);apply Y 0x3c0e6ce8;refine sp (Ev.cast (u:=.slice (bF A c (e.toNat-(be2 ((aR f us).drop (e.toNat-2)))) 1) (fa (aR f us) e.toNat).length (c-(e.toNat-(be2 ((aR f us).drop (e.toNat-2)))))) (dB (l:=e.toNat-(be2 ((aR f us).drop (e.toNat-2)))) (h:=e.toNat) rfl rfl rfl rfl rfl rfl oe oe oe oe) O9) ?_;apply Y 0x5a5c0e5;refine QE.more (r:=Rd (bF A c (e.toNat-(be2 ((aR f us).drop (e.toNat-2)))) 1) (U8 (fa (aR f us) e.toNat))) (((Has.sub (Has.r 1 rfl) c (e.toNat-(be2 ((aR f us).drop (e.toNat-2)))) 1 (be2 ((aR f us).drop (e.toNat-2))) oO).cast oa7)) ?_;have hL:¬cx (aR f us) (f.size:Int) e:=by unfold cx;rw [hps];rintro (h|h|h|h)<;>first|omega|cases h
 apply Y 0x830f;refine ⟨bF A c (e.toNat-(be2 ((aR f us).drop (e.toNat-2)))) 1,c-(e.toNat-(be2 ((aR f us).drop (e.toNat-2)))),?_,?_,rfl,?_⟩
 ·rw [jV hL]
  rfl
 ·rw [jV hL]
  rfl
 rw [jV hL]
 show (fa (aR f us) e.toNat).length≤_
 omega
end Go.Proofs.YtbpddeiogcgegaaGreat
namespace Go.Sl
def Lay.secs (y:Lay):List Int:=(List.range y.n.toNat).map Int.ofNat++y.rest
theorem Dz {y:Lay}{N:Int}(h1:1≤y.n)(h2:y.n≤N):((∀ x∈y.secs,0≤x∧x<N)∧y.secs.Nodup)↔((∀ x∈y.rest,y.n≤x∧x<N)∧y.rest.Nodup):=by
 have hr:∀ x:Int,x∈(List.range y.n.toNat).map Int.ofNat↔0≤x∧x<y.n:=fun x=>by
  rw [List.mem_map]
  constructor
  ·rintro ⟨k,hk,rfl⟩;have:=List.mem_range.1 hk
   show 0≤(k:Int)∧(k:Int)<y.n
   omega
  apply Y 0x7ae;intro h3 h4;exact ⟨x.toNat,List.mem_range.2 oe,by show ((x.toNat:Nat):Int)=x;omega⟩
 have hn:((List.range y.n.toNat).map Int.ofNat).Nodup:=by
  rw [List.Nodup,List.pairwise_map]
  exact List.Pairwise.imp (fun h e=>h (Int.ofNat.inj e)) List.nodup_range
 unfold Lay.secs;rw [List.nodup_append]
 constructor
 ·rintro ⟨h3,_,h5,h6⟩;refine ⟨fun x hx=>?_,h5⟩;have h7:=h3 x (List.mem_append_right _ hx);refine ⟨?_,h7.2⟩
  rcases Int.lt_or_le x y.n with h|h
  ·exact absurd rfl (h6 x ((hr x).2 ⟨h7.1,h⟩) x hx)
  exact h
 apply Y 0x7ae;intro h3 h4;refine ⟨fun x hx=>?_,hn,h4,fun x hx z hz e=>?_⟩
 ·rcases List.mem_append.1 hx with h|h
  ·have:=(hr x).1 h
   omega
  have:=h3 x h
  omega
 subst e;have:=(hr x).1 hx;have:=h3 x hz
 omega
def hZ (l:List Int):List Int:=l.mergeSort fun x y=>decide (x≤y)
theorem wh (l:List Int):(hZ l).Perm l:=List.mergeSort_perm l _
theorem iT (l:List Int):(hZ l).length=l.length:=List.length_mergeSort l
theorem Bg (l:List Int)(x:Int):x∈hZ l↔x∈l:=(wh l).mem_iff
theorem Ib (l:List Int):(hZ l).Pairwise (· ≤·):=by
 have h:=List.pairwise_mergeSort (le:=fun x y:Int=>decide (x≤y)) (fun a b c h1 h2=>by simp only [decide_eq_true_eq] at h1 h2 ⊢;omega) (fun a b=>by simp only [Bool.or_eq_true,decide_eq_true_eq];omega) l
 exact h.imp fun h=>by simpa using h
theorem jW (l:List Int){i j:Nat}(hij:i≤j)(hj:j<(hZ l).length):(hZ l).getD i 0≤(hZ l).getD j 0:=by
 rcases Nat.lt_or_eq_of_le hij with h|rfl
 ·have:=List.pairwise_iff_getElem.1 (Ib l) i j oe hj h
  simpa [List.getD_eq_getElem?_getD,hj,show i<(hZ l).length by omega] using this
 exact Int.le_refl _
theorem Be {l:List Int}{n N:Int}(h0:0<l.length):(n≤(hZ l).getD 0 0∧(hZ l).getD (l.length-1) 0<N)↔∀ x∈l,n≤x∧x<N:=by
 have hl:=iT l
 constructor
 ·rintro ⟨h1,h2⟩ x hx;obtain ⟨i,hi,rfl⟩:=List.mem_iff_getElem.1 ((Bg l x).2 hx);have e:(hZ l)[i]=(hZ l).getD i 0:=by simp [List.getD_eq_getElem?_getD,hi]
  rw [e];have:=jW l (Nat.zero_le i) hi;have:=jW l (show i≤l.length-1 by omega) oe
  omega
 intro h;have hg:∀ i,i<l.length→n≤(hZ l).getD i 0∧(hZ l).getD i 0<N:=fun i hi=>by
  have e:(hZ l).getD i 0=(hZ l)[i]'oe:=by simp [List.getD_eq_getElem?_getD,show i<(hZ l).length by omega]
  rw [e]
  exact h _ ((Bg l _).1 (List.getElem_mem _))
 exact ⟨(hg 0 h0).1,(hg _ oe).2⟩
theorem ID {zs:List Int}:(Lib.compact zs).length=zs.length↔∀ j,j<zs.length→Lib.keeps zs.toArray j=true:=by
 constructor
 ·intro h j hj
  unfold Lib.compact Lib.compactUpTo at h;rw [List.length_map] at h;have h2:((List.range zs.length).filter (Lib.keeps zs.toArray)).length=(List.range zs.length).length:=by rw [h,List.length_range]
  exact List.length_filter_eq_length_iff.1 h2 j (List.mem_range.2 hj)
 intro h;rw [Lib.compact_all zs h]
theorem Bf (l:List Int):(Lib.compact (hZ l)).length=l.length↔l.Nodup:=by
 rw [← iT l,ID,← (wh l).nodup_iff];have get:∀ j,j<(hZ l).length→(hZ l).toArray[j]! =(hZ l).getD j 0:=fun j hj=>by simp [List.getD_eq_getElem?_getD,hj]
 constructor
 ·intro h;rw [List.Nodup,List.pairwise_iff_getElem];intro i j hi hj hij e;have h1:=h j hj
  unfold Lib.keeps at h1;rw [decide_eq_true_eq,get j hj,get (j-1) oe] at h1;have h2:=jW l (show i≤j-1 by omega) oe;have h3:=jW l (show j-1≤j by omega) hj;have e1:(hZ l).getD i 0=(hZ l).getD j 0:=by
   simpa [List.getD_eq_getElem?_getD,hi,hj] using e
  rcases h1 with h1|h1
  ·omega
  exact h1 oe
 intro h j hj
 unfold Lib.keeps;rw [decide_eq_true_eq]
 by_cases h0:j=0
 ·exact .inl h0
 right;rw [get j hj,get (j-1) oe];intro e;have:=List.pairwise_iff_getElem.1 h (j-1) j oe hj oe
 exact this (by simpa [List.getD_eq_getElem?_getD,hj,show j-1<(hZ l).length by omega] using e.symm)
end Go.Sl
namespace Go.Proofs.YtbpddeiogcgegaaGreat
open Go.Sl
theorem vk (y:Lay):y.secs.length=y.n.toNat+4+y.gs.length+y.us.length+y.ls.length:=by
 unfold Lay.secs Lay.rest
 simp only [List.length_append,List.length_map,List.length_range,List.length_cons,List.length_nil]
 omega
theorem Dy (y:Lay):I64 (NI (List.range y.n.toNat))++[.int .i64 y.a,.int .i64 y.b,.int .i64 y.s0,.int .i64 y.s1]++I64 y.gs++I64 y.us++I64 y.ls=I64 y.secs:=by
 unfold Lay.secs Lay.rest;rw [← cS,← cS,← cS,← cS,← List.append_assoc,← List.append_assoc,← List.append_assoc]
 rfl
theorem DB (y:Lay)(G U V:Option Addr)(gc uc vc:Nat)(hyn: -1000000≤y.n∧y.n≤1000000)(hyl:y.gs.length≤1000∧y.us.length≤1000∧y.ls.length≤1000)(hn0:0≤y.n):
    Ctr X 63 [.agg (List.toArray (hY y G U V gc uc vc))] [Rd G (I64 y.gs),Rd U (I64 y.us),Rd V (I64 y.ls)] [] (fun v R' H'=>∃ (A:Option Addr) (c:Nat),v=.slice A y.secs.length c∧R'=[]∧H'=[Own 3 1 A y.secs.length c (I64 y.secs)]):=by
 refine co Tryz.func63 ?_;intro β;apply Y 0x2a;intro A1;apply Y 0x7afb28;intro A5;apply Y 0x19228;refine lp [] [] (fun q:Nat×Option Addr×Nat=>[(1,ag A1 0),(4,.int .i64 (q.1:Int)),(3,.slice q.2.1 (NI (List.range q.1)).length q.2.2)]) (kz [_,_,_,_]) (fun q=>[Own 3 1 q.2.1 (NI (List.range q.1)).length q.2.2 (I64 (NI (List.range q.1)))]) (fun q=>(q.1:Int)≤y.n) (fun q=>y.n.toNat-q.1) (0,A5,0) ou (lk [0,1,2,3] [0]) ?_;apply Y 0xb1e;intro i A c hi
 dsimp only at hi ⊢;apply Zu 0x78d8484<;>intro
 ·apply Y 0x49;have hnl2:(NI (List.range i)).length=i:=Q3;apply Y 0x7a3b;intro A14;refine L.append (j:=0) rfl rfl rfl rfl ob rfl rfl rfl rfl (Src.o 1 rfl) rfl (by intro v hv;simp at hv;subst hv;rfl) oe oV rfl (fun A15 cc15=>?_);apply Y 0x3a90e;have he:NI (List.range (i+1))=NI (List.range i)++[((i:Nat):Int)]:=by rw [List.range_succ,GL];rfl
  refine QE.round (i:=(i,A,c)) ((i+1,A15,cc15)) ou ou (by exact lk [0,1,2,3] [0] ⟨rfl,rfl,OJ,trivial⟩ (hh:=⟨(congrArg some (ay OJ QG)),trivial⟩))
 apply Y 0x469;obtain rfl:i=y.n.toNat:=oe;have hnl2:(NI (List.range y.n.toNat)).length=y.n.toNat:=Q3;apply Y 0xdc8a;refine sp (aV (k:=0) (m:=1) rfl rfl rfl rfl rfl rfl ob (Src.r 0 rfl) (Nat.zero_lt_of_lt (show 1<8 by decide)) rfl) ?_;apply Y 0xdca3e;refine sp (aV (k:=1) (m:=2) rfl rfl rfl rfl rfl rfl ob (Src.r 0 rfl) (Nat.zero_lt_of_lt (show 1<8 by decide)) rfl) ?_;apply Y 0xdca3e;refine sp (aV (k:=0) (m:=3) rfl rfl rfl rfl rfl rfl ob (Src.r 0 rfl) (Nat.zero_lt_of_lt (show 1<8 by decide)) rfl) ?_;apply Y 0xdca3e;refine sp (aV (k:=1) (m:=4) rfl rfl rfl rfl rfl rfl ob (Src.r 0 rfl) (Nat.zero_lt_of_lt (show 1<8 by decide)) rfl) ?_;apply Y 0x7aa3e;intro A29;refine L.append (j:=0) rfl rfl rfl rfl ob rfl rfl rfl rfl (Src.o 1 rfl) rfl (by intro v hv;simp at hv;rcases hv with rfl|rfl|rfl|rfl<;>rfl) oe oV rfl (fun A30 cc30=>?_);apply Y 0xd8481;refine L.append (j:=0) rfl rfl rfl rfl ob rfl rfl rfl rfl (Src.r 1 rfl) oZ (dk _) oe oV rfl (fun A34 cc34=>?_);apply Y 0xd8481;refine L.append (j:=0) rfl rfl rfl rfl ob rfl rfl rfl rfl (Src.r 2 rfl) oZ (dk _) oe oV rfl (fun A38 cc38=>?_);apply Y 0xd8481;refine L.append (j:=0) rfl rfl rfl rfl ob rfl rfl rfl rfl (Src.r 3 rfl) oZ (dk _) oe oV rfl (fun A42 cc42=>?_);apply Y 0x20e5a;have hlen:(NI (List.range y.n.toNat)).length+4+y.gs.length+y.us.length+y.ls.length=y.secs.length:=by
  rw [hnl2,vk]
 refine ⟨A42,cc42,?_,rfl,?_⟩
 ·exact congrArg (fun m=>Value.slice A42 m cc42) hlen
 exact congrArg (fun x=>[x]) (ay hlen (by rw [Dy]))
theorem HL {f:Fl}(h:f.Ok):okB (f.size:Int) f=true:=by
 obtain ⟨s1,s2,n1,n2,wl,dl,rows,l1,l2,wear⟩:=h;refine tY ⟨by omega,by omega,l1,l2,n1,n2,wl,dl⟩ fun i hi=>?_
 have h1:=rows i hi;have h2:=wear i hi
 unfold okR
 first
  |exact decide_eq_true ⟨by omega,h2.1,h2.2⟩
  |simp only [Bool.and_eq_true,decide_eq_true_eq];omega
def Ex (z:Int)(f:Fl)(y:Lay):Bool:=
  okB z f&&decide (38≤z∧1≤y.n∧y.n≤(f.data.length:Int)∧1≤y.gs.length∧y.gs.length≤8∧(∀ x∈y.rest,y.n≤x∧x<(f.data.length:Int))∧y.rest.Nodup)
theorem uh {f:Fl}(h:f.Ok)(y:Lay):Ex (f.size:Int) f y=fg f y:=by
 unfold Ex fg;rw [HL h,decide_eq_true h,Bool.true_and,Bool.true_and,decide_eq_decide]
 constructor
 ·apply Y 0x7ae;intro q r;exact ⟨by omega,r⟩
 apply Y 0x7ae;intro q r;exact ⟨by omega,r⟩
theorem nW {z:Int}{f:Fl}{y:Lay}:Ex z f y=true↔okB z f=true∧38≤z∧1≤y.n∧y.n≤(f.data.length:Int)∧1≤y.gs.length∧y.gs.length≤8∧(∀ x∈y.rest,y.n≤x∧x<(f.data.length:Int))∧y.rest.Nodup:=by
 unfold Ex;rw [Bool.and_eq_true,decide_eq_true_eq]
theorem fx {z:Int}{f:Fl}{y:Lay}(h:¬(okB z f=true∧38≤z∧1≤y.n∧y.n≤(f.data.length:Int)∧1≤y.gs.length∧y.gs.length≤8∧(∀ x∈y.rest,y.n≤x∧x<(f.data.length:Int))∧y.rest.Nodup)):Ex z f y=false:=by
 rw [← Bool.not_eq_true,nW]
 exact h
theorem kW {l:List Int}{j:Nat}(h:j<l.length):l.getD j 0∈l:=by
 exact Zm 0xe10f540f
theorem wg {z:Int}{f:Fl}{y:Lay}(h:okB z f=true∧38≤z∧1≤y.n∧y.n≤(f.data.length:Int)∧1≤y.gs.length∧y.gs.length≤8):
    Ex z f y=true↔(∀ j,j<y.secs.length→0≤y.secs.getD j 0∧y.secs.getD j 0<(f.data.length:Int))∧∀ j,j<y.secs.length→∀ k,k<j→y.secs.getD k 0≠y.secs.getD j 0:=by
 have e:=Dz (y:=y) h.2.2.1 h.2.2.2.1;rw [nW]
 constructor
 ·rintro ⟨_,_,_,_,_,_,h1,h2⟩;obtain ⟨q1,q2⟩:=e.2 ⟨h1,h2⟩;exact ⟨fun j hj=>q1 _ (kW hj),fun j hj k hk=>cK q2 k j hk hj⟩
 apply Y 0x7ae;intro q1 q2;have m1:∀ x∈y.secs,0≤x∧x<(f.data.length:Int):=fun x hx=>by
  obtain ⟨j,hj,rfl⟩:=List.getElem_of_mem hx;have:=q1 j hj
  rwa [List.getD_eq_getElem?_getD,List.getElem?_eq_getElem hj] at this
 have m2:y.secs.Nodup:=by
  rw [List.Nodup,List.pairwise_iff_getElem];intro i j hi hj hij ee;have:=q2 j hj i hij;rw [List.getD_eq_getElem?_getD,List.getD_eq_getElem?_getD,List.getElem?_eq_getElem hi,List.getElem?_eq_getElem hj] at this
  exact this ee
 obtain ⟨h1,h2⟩:=e.1 ⟨m1,m2⟩;exact ⟨h.1,h.2.1,h.2.2.1,h.2.2.2.1,h.2.2.2.2.1,h.2.2.2.2.2,h1,h2⟩
theorem rA (y:Lay):y.rest.length=4+y.gs.length+y.us.length+y.ls.length:=by
 unfold Lay.rest;exact Zm 0x561f
theorem nV {z:Int}{f:Fl}{y:Lay}(h:okB z f=true∧38≤z∧1≤y.n∧y.n≤(f.data.length:Int)∧1≤y.gs.length∧y.gs.length≤8):
    Ex z f y=true↔(y.n≤(hZ y.rest).getD 0 0∧(hZ y.rest).getD (y.rest.length-1) 0<(f.data.length:Int))∧(Lib.compact (hZ y.rest)).length=y.rest.length:=by
 have h0:0<y.rest.length:=by rw [rA];omega
 rw [nW,Be h0,Bf];exact ⟨fun q=>⟨q.2.2.2.2.2.2.1,q.2.2.2.2.2.2.2⟩,fun q=>⟨h.1,h.2.1,h.2.2.1,h.2.2.2.1,h.2.2.2.2.1,h.2.2.2.2.2,q.1,q.2⟩⟩
theorem fK {R H:List Pr}{A:Option Addr}{c:Nat}{xs:List Value}{hs:List Hd}{vss:List (List Value)}(h1:Has R H (Rd A xs))(h:Has R H (KidsR hs vss)):Has R H (KidsR ((A,c)::hs) (xs::vss)):=
  ⟨fun β w q i hd v hh hv=>match i,hh,hv with
    |0,hh,hv=>by
      obtain rfl:(A,c)=hd:=obn
      obtain rfl:xs=v:=obo
      exact h1.1 β w q
    |i+1,hh,hv=>h.1 β w q i hd v obn obo,
   fun k ⟨i,hd,v,hh,hv,hk⟩=>match i,hh,hv with
    |0,hh,hv=>by
      obtain rfl:(A,c)=hd:=obn
      obtain rfl:xs=v:=obo
      exact h1.2 k hk
    |i+1,hh,hv=>h.2 k ⟨i,hd,v,by simpa using hh,by simpa using hv,hk⟩⟩
theorem BG (y:Lay)(G U V:Option Addr)(gc uc vc:Nat)(A:Option Addr):[Value.slice (A.map (·.add 1)) 2 2,.slice (A.map (·.add 3)) 2 2,.slice G y.gs.length gc,.slice U y.us.length uc,.slice V y.ls.length vc]=aB [(A.map (·.add 1),2),(A.map (·.add 3),2),(G,gc),(U,uc),(V,vc)] (J8 [[y.a,y.b],[y.s0,y.s1],y.gs,y.us,y.ls]):=by
 simp [aB,J8,bq]
theorem B6 (A:Option Addr)(l:List Int)(c m:Nat)(hm:l.length=m)(hl:l.length≤1000000):
    Ctr X 61 [.slice A m c] [] [Own 3 1 A m c (I64 l)] (fun v R' H'=>v=.slice A (Lib.compact l).length c∧R'=[]∧H'=[Own 3 1 A (Lib.compact l).length c (I64 (Lib.compact l))]):=by
 subst hm
 exact B7 A l c hl
theorem sK (y:Lay):[[y.a,y.b],[y.s0,y.s1],y.gs,y.us,y.ls].flatten=y.rest:=by simp [Lay.rest]
theorem Ir {y:Lay}(h:y.gs.length≤1000∧y.us.length≤1000∧y.ls.length≤1000):∀ i,([[y.a,y.b],[y.s0,y.s1],y.gs,y.us,y.ls].getD i []).length≤9223372036854775807
  |0=>show 2≤_ by decide
  |1=>show 2≤_ by decide
  |2=>show y.gs.length≤_ by omega
  |3=>show y.us.length≤_ by omega
  |4=>show y.ls.length≤_ by omega
  |i+5=>show 0≤_ by decide
theorem yz (z:Int)(f:Fl)(a:Fa)(hh:a.hs.length=f.data.length)(hn:f.data.length≤9223372036854775807)(y:Lay)(G U V:Option Addr)(gc uc vc:Nat)(hyn: -1000000≤y.n∧y.n≤1000000)(hyl:y.gs.length≤1000∧y.us.length≤1000∧y.ls.length≤1000):
    Ctr X 24 [.agg (List.toArray [.int .i64 z,.slice a.D f.data.length a.cD,.slice a.W f.wear.length a.cW,.int .i64 f.limit,.slice a.E f.dead.length a.cE]),.agg (List.toArray (hY y G U V gc uc vc))] (flR f a++[Rd G (I64 y.gs),Rd U (I64 y.us),Rd V (I64 y.ls)]) [] (fun v R' H'=>v=.bool (Ex z f y)∧R'=[]∧H'=[]):=by
 refine co Tryz.func24 ?_;intro β;apply Y 0x2a;intro A2;apply Y 0xdd;intro A3;apply Y 0x16efba0e8d428;refine an (yB z f a hh hn) ?_;apply Y 0x529;refine L.bool 11 rfl ?_ ?_<;>intro hg11
 ·apply Y 0x19d9dbc9d2b52b;refine C.cond rfl (fun _=>?_) (fun h=>by cases h);apply Y 0x25e;have hgA:(!okB z f)=true:=hg11;apply Y 0x39;exact ⟨congrArg Value.bool (fx fun q=>by rw [q.1] at hgA;cases hgA).symm,rfl,rfl⟩
 apply Zu 0xff0fc8712e7d0e7<;>intro
 ·apply Y 0x19d9dbc9d2b;refine C.cond rfl (fun _=>?_) (fun h=>by cases h);exact Zm 0xbd1f5c
 apply Zu 0x201fc87cb<;>intro
 ·apply Y 0x19d9dbca8;refine C.cond rfl (fun _=>?_) (fun h=>by cases h);exact Zm 0xcd1f5c
 apply Zu 0x501fc8b812e7d0e7cb<;>intro
 ·apply Y 0x19da8;refine C.cond rfl (fun _=>?_) (fun h=>by cases h);exact Zm 0xdd1f5c
 apply Zu 0x820fc8b8cb<;>intro
 ·apply Y 0x1a8;refine C.cond rfl (fun _=>?_) (fun h=>by cases h);exact Zm 0xed1f5c
 apply Zu 0x782ccb<;>intro
 ·exact Zm 0xfd1f5c
 apply Y 0xaa;have hb6:okB z f=true∧38≤z∧1≤y.n∧y.n≤(f.data.length:Int)∧1≤y.gs.length∧y.gs.length≤8:=⟨by simpa using hg11,by omega,by omega,by omega,by omega,by omega⟩;have hsl:=vk y;apply Y 0xe2e68;refine an (DB y G U V gc uc vc hyn hyl oe) ?_;apply Y 0x89;intro SA sc;apply Y 0x19fb4283c;refine lp [2,5] [_,_] (fun i:Nat=>[(6,.int .i64 (i:Int))]) (kz [_,_]) nz (fun i=>i≤y.secs.length∧(∀ j,j<i→0≤y.secs.getD j 0∧y.secs.getD j 0<(f.data.length:Int))∧(∀ j,j<i→∀ k,k<j→y.secs.getD k 0≠y.secs.getD j 0)) (fun i=>y.secs.length-i) 0 ⟨Nat.zero_le _,fun j h=>absurd h (Nat.not_lt_zero _),fun j h=>absurd h (Nat.not_lt_zero _)⟩ (lk [0,2] []) ?_;rintro i ⟨hi,h1,h2⟩;apply Zu 0x786c4<;>intro
 ·apply Y 0xb92ce941fb93d4449;refine LQ.bool 54 rfl (imp of_decide_eq_true ?_) (imp of_decide_eq_false ?_)<;>intro
  ·apply Y 0x9aa98b8b;refine C.cond rfl (fun _=>?_) (fun h=>by cases h);apply Y 0xfc4bab25e
   symm;apply Y 0x951f
   exact fun q=>by have:=(q.1 i oe).1;omega
  apply Zu 0x1c9ab9181d52e1892e182ce18941f181d1d<;>intro
  ·apply Y 0xfc4bab25e
   symm;apply Y 0x951f
   exact fun q=>by have:=(q.1 i oe).2;omega
  apply Y 0x192e8;refine lp [2,5,6] [_,_,_] (fun k:Nat=>[(7,.int .i64 (k:Int))]) (kz [_,_]) nz (fun k=>k≤i∧∀ j,j<k→y.secs.getD j 0≠y.secs.getD i 0) (fun k=>i-k) 0 ⟨Nat.zero_le _,fun j h=>absurd h (Nat.not_lt_zero _)⟩ (lk [0,1] []) ?_;apply Y 0xf0e;intro k hk h3;apply Zu 0x78584<;>intro
  ·apply Zu 0x40e9aa92ce941fb92ce882fb93d449<;>intro hc77
   ·apply Y 0xfc4bab58eabf9
    symm;apply Y 0x951f
    exact fun q=>q.2 i oe k oe hc77
   apply Y 0x3ad9;refine QE.round (k+1) (by exact ⟨by omega,fun j hj=>by by_cases e:j=k;(subst e;exact hc77);exact h3 j oe⟩) oe (lk [0,1] [])
  apply Y 0x3a64e;obtain rfl:k=i:=oe;refine QE.round (i:=k) (k+1) (by exact ⟨by omega,fun j hj=>by by_cases e:j=k;(subst e;omega);exact h1 j oe,fun j hj q hq=>by by_cases e:j=k;(subst e;exact h3 q hq);exact h2 j oe q hq⟩) oe (lk [0,1] [])
 apply Y 0x39f969;obtain rfl:i=y.secs.length:=oe;exact ⟨congrArg Value.bool ((wg hb6).2 ⟨h1,h2⟩).symm,rfl,rfl⟩
theorem iI (z:Int)(f:Fl)(a:Fa)(hh:a.hs.length=f.data.length)(hn:f.data.length≤9223372036854775807)(y:Lay)(G U V:Option Addr)(gc uc vc:Nat)(hyn: -1000000≤y.n∧y.n≤1000000)(hyl:y.gs.length≤1000∧y.us.length≤1000∧y.ls.length≤1000):
    Ctr X 23 [.agg (List.toArray [.int .i64 z,.slice a.D f.data.length a.cD,.slice a.W f.wear.length a.cW,.int .i64 f.limit,.slice a.E f.dead.length a.cE]),.agg (List.toArray (hY y G U V gc uc vc))] (flR f a++[Rd G (I64 y.gs),Rd U (I64 y.us),Rd V (I64 y.ls)]) [] (fun v R' H'=>v=.bool (Ex z f y)∧R'=[]∧H'=[]):=by
 refine co Tryz.func23 ?_;intro β;apply Y 0x2a;intro A2;apply Y 0xdd;intro A3;apply Y 0x16efba0e8d428;refine an (GQ z f a hh hn) ?_;apply Y 0x529;refine L.bool 9 rfl ?_ ?_<;>intro hg9
 ·apply Y 0x19d9dbc9d2b52b;refine C.cond rfl (fun _=>?_) (fun h=>by cases h);apply Y 0x25e;have hgA:(!okB z f)=true:=hg9;apply Y 0x39;exact ⟨congrArg Value.bool (fx fun q=>by rw [q.1] at hgA;cases hgA).symm,rfl,rfl⟩
 apply Zu 0xef0fc8712e7d0e7<;>intro
 ·apply Y 0x19d9dbc9d2b;refine C.cond rfl (fun _=>?_) (fun h=>by cases h);exact Zm 0xbd1f5c
 apply Zu 0x5f1fc87cb<;>intro
 ·apply Y 0x19d9dbca8;refine C.cond rfl (fun _=>?_) (fun h=>by cases h);exact Zm 0xcd1f5c
 apply Zu 0x8f1fc8b812e7d0e7cb<;>intro
 ·apply Y 0x19da8;refine C.cond rfl (fun _=>?_) (fun h=>by cases h);exact Zm 0xdd1f5c
 apply Zu 0xaf1fc8b8cb<;>intro
 ·apply Y 0x1a8;refine C.cond rfl (fun _=>?_) (fun h=>by cases h);exact Zm 0xed1f5c
 apply Zu 0x782ccb<;>intro
 ·exact Zm 0xfd1f5c
 apply Y 0xaa;have hb6:okB z f=true∧38≤z∧1≤y.n∧y.n≤(f.data.length:Int)∧1≤y.gs.length∧y.gs.length≤8:=⟨by simpa using hg9,by omega,by omega,by omega,by omega,by omega⟩;have hsl:=rA y;refine C.join (fun q:Option Addr×Nat=>[(2,ag A2 0),(3,ag A3 0),(5,.slice q.1 y.rest.length q.2)]) (fun q:Option Addr×Nat=>[Rd A3 (hY y G U V gc uc vc),Rd A2 [.int .i64 z,.slice a.D f.data.length a.cD,.slice a.W f.wear.length a.cW,.int .i64 f.limit,.slice a.E f.dead.length a.cE],Rd a.D (aB a.hs (B8 f.data)),KidsR a.hs (B8 f.data),Rd a.W (I64 f.wear),Rd a.E (Bs f.dead),Rd G (I64 y.gs),Rd U (I64 y.us),Rd V (I64 y.ls)]) (fun q:Option Addr×Nat=>[Own 3 1 q.1 y.rest.length q.2 (I64 y.rest)]) (fun q:Option Addr×Nat=>True) ?_ ?_
 ·apply Y 0x230f270f;refine mq 1 rfl (lW rfl rfl rfl rfl (Src.r 0 rfl) (Nat.le_of_ble_eq_true rfl)) ?_;apply Y 0x530f;refine mq 3 rfl (lW rfl rfl rfl rfl (Src.r 0 rfl) (Nat.le_of_ble_eq_true rfl)) ?_;refine mq 4 rfl (faR 0) ?_;refine mq 5 rfl (ldR 0) ?_;refine mq 6 rfl (faR 0) ?_;refine mq 7 rfl (ldR 0) ?_;apply Y 0x7a48ec9a3ec7e6dcb4e;intro A49;apply Y 0x17e6;refine L.call (js:=[]) (js':=[0]) (wP A49 [[y.a,y.b],[y.s0,y.s1],y.gs,y.us,y.ls] 5 [(A3.map (·.add 1),2),(A3.map (·.add 3),2),(G,gc),(U,uc),(V,vc)] rfl (show 5≤_ by decide) (Ir hyl) (by rw [sK];omega)) rfl rfl rfl ob ⟨((Has.o 0 rfl).cast (BG y G U V gc uc vc _)),(fK ((Has.at (xs:=(hY y G U V gc uc vc)) (Has.r 0 rfl) 1 2).cast rfl) (fK ((Has.at (xs:=(hY y G U V gc uc vc)) (Has.r 0 rfl) 3 2).cast rfl) (fK (Has.r 6 rfl) (fK (Has.r 7 rfl) (fK (Has.r 8 rfl) Has.kids0))))),trivial⟩ rfl ?_;rw [sK];apply Y 0x89;intro SA sc;apply Y 0x9c27e6db;refine aZ ((SA,sc)) O7 (lk [0,1,2,3,4,5,6,7,8] [0])
 rintro ⟨SA,sc⟩ _
 dsimp only;apply Y 0x481b;refine gL (js:=[0]) (js':=[]) (FX SA y.rest sc oe) rfl rfl rfl rfl rfl ob trivial rfl ?_;apply Y 0x29;rw [show (y.rest.mergeSort fun x y=>decide (x≤y))=hZ y.rest from rfl];apply Y 0xd2e270f7b3c;refine mq 3 rfl (faR 0) ?_;refine mq 4 rfl (ldR 0) ?_;refine mfo 1 ?_;refine sp (ae (k:=0) rfl rfl rfl rfl rfl rfl rfl oe (Src.o 0 rfl) (by rw [bq,iT];omega)) ?_;apply Y 0x6;refine mfo 2 ?_;refine sp (Ev.load rfl rfl rfl (Src.o 0 rfl) (aJ obQ)) ?_;apply Y 0x98ec4e6;refine LM.bool 59 rfl (imp of_decide_eq_true ?_) (imp of_decide_eq_false ?_)<;>intro hg59
 ·refine my 7 rfl (Ev.pure rfl) ?_;refine my 8 rfl (Ev.pure rfl) ?_;refine my 9 rfl (Ev.pure rfl) ?_;refine my 10 rfl (Ev.sub rfl rfl oe oe) ?_;refine my 13 rfl (faR 1) ?_;refine my 14 rfl (ldR 1) ?_;refine my 15 rfl (Ev.pure rfl) ?_;apply Y 0x784e;refine sp (ae (k:=(y.rest.length-1)) rfl rfl rfl rfl rfl rfl oe oe (Src.o 0 rfl) (by rw [bq,iT];omega)) ?_;apply Y 0x763e6;refine sp (Ev.load rfl rfl rfl (Src.o 0 rfl) (aJ obQ)) ?_;apply Y 0x6;refine my 16 rfl (Ev.pure rfl) ?_;apply Y 0x3de;refine mq 18 rfl (Ev.pure rfl) ?_;refine LM.bool 71 rfl (imp of_decide_eq_true ?_) (imp of_decide_eq_false ?_)<;>intro hg71
  ·refine my 19 rfl (Ev.pure rfl) ?_;refine my 22 rfl (faR 0) ?_;refine my 23 rfl (ldR 0) ?_;refine my 24 rfl (Ev.pure rfl) ?_;refine my 25 rfl (faR 0) ?_;refine my 26 rfl (ldR 0) ?_;refine my 27 rfl (Ev.pure rfl) ?_;refine my 28 rfl (Ev.add rfl rfl oe oe) ?_;refine my 29 rfl (faR 0) ?_;refine my 30 rfl (ldR 0) ?_;refine my 31 rfl (Ev.pure rfl) ?_;refine my 32 rfl (Ev.add rfl rfl oe oe) ?_;refine my 33 rfl (Ev.add rfl rfl oe oe) ?_;refine mfo 20 ?_;apply Y 0x7;refine L.call (js:=[0]) (js':=[]) (B6 SA (hZ y.rest) sc y.rest.length (iT _) obQ) rfl rfl rfl ob trivial rfl ?_;apply Y 0x63c29;refine mfo 21 ?_;apply Y 0xc96a;refine LM.f 34 rfl oa trivial ?_;apply Y 0x66a;refine LM.f 35 rfl oa trivial ?_;apply Y 0xfc3923e1b9c180f63;rw [Bool.eq_iff_iff,nV hb6,beq_iff_eq];exact ⟨fun h=>⟨⟨hg59,hg71⟩,by omega⟩,fun h=>by have:=h.2;omega⟩
  refine mno 19 ?_;refine mno 20 ?_;refine mno 21 ?_;refine mno 22 ?_;refine mno 23 ?_;refine mno 24 ?_;refine mno 25 ?_;refine mno 26 ?_;refine mno 27 ?_;refine mno 28 ?_;refine mfo 29 ?_;apply Y 0x6a2e;refine mfo 30 ?_;apply Y 0x6a2e;refine mfo 31 ?_;apply Y 0x6a2e;refine mfo 32 ?_;apply Y 0x6a2e;refine mfo 33 ?_;apply Y 0xc9a2e;refine LM.f 34 rfl oa trivial ?_;apply Y 0x6a2e;refine LM.f 35 rfl oa trivial ?_;apply Y 0xfc3923e1b9c180f63
  symm;rw [← Bool.not_eq_true,nV hb6]
  exact fun q=>by have:=q.1.2;omega
 refine mno 7 ?_;refine mno 8 ?_;refine mno 9 ?_;refine mno 10 ?_;refine mno 11 ?_;refine mno 12 ?_;refine mno 13 ?_;refine mno 14 ?_;refine mno 15 ?_;refine mno 16 ?_;apply Y 0x3de;refine mq 18 rfl (Ev.pure rfl) ?_;refine mno 19 ?_;refine mno 20 ?_;refine mno 21 ?_;refine mno 22 ?_;refine mno 23 ?_;refine mno 24 ?_;refine mno 25 ?_;refine mno 26 ?_;refine mno 27 ?_;refine mno 28 ?_;refine mfo 29 ?_;apply Y 0x6a2e;refine mfo 30 ?_;apply Y 0x6a2e;refine mfo 31 ?_;apply Y 0x6a2e;refine mfo 32 ?_;apply Y 0x6a2e;refine mfo 33 ?_;apply Y 0xc9a2e;refine LM.f 34 rfl oa trivial ?_;apply Y 0x6a2e;refine LM.f 35 rfl oa trivial ?_;apply Y 0xfc3923e1b9c180f63
 symm;rw [← Bool.not_eq_true,nV hb6]
 exact fun q=>by have:=q.1.1;omega
end Go.Proofs.YtbpddeiogcgegaaGreat
