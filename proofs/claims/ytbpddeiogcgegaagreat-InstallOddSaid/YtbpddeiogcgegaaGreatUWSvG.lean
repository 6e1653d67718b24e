/-
  Part of a proof.
-/
import Derived.Lib.SlicesCompact
import Derived.Test.YtbpddeiogcgegaaGreatUWSvF
set_option maxHeartbeats 0
set_option maxRecDepth 4000
set_option linter.all false
namespace Go.Proofs.YtbpddeiogcgegaaGreat
open Go.Sl
theorem FS (f:Fl)(a:Fa)(ok:f.Ok)(hh:a.hs.length=f.data.length){ln la lb l0 l1:Int}{GA VA:Option Addr}{gl gc vl vc:Nat}(us:List Int)(U:Option Addr)(uc:Nat)(hu:UOk f us)(e:Int):
    Ctr X 191 [flV f a,.agg (List.toArray [.int .i64 ln,.int .i64 la,.int .i64 lb,.int .i64 l0,.int .i64 l1,.slice GA gl gc,.slice U us.length uc,.slice VA vl vc]),.int .i64 e] (flR f a++[Rd U (I64 us)]) [] (fun v R' H'=>∃ A c,v=.tuple #[.slice A (aW (aI f us) (f.size:Int) e).b.length c,.int .i64 (aW (aI f us) (f.size:Int) e).at_,.int .i64 (aW (aI f us) (f.size:Int) e).e]∧R'=[Rd A (U8 (aW (aI f us) (f.size:Int) e).b)]∧H'=[]∧(aW (aI f us) (f.size:Int) e).b.length≤c):=by
 apply Y 0xc1e;intro hok;obtain ⟨os1,os2,on1,on2,owl,odl,orows,ol1,ol2,owear⟩:=ok;apply Y 0x640f;intro hul;refine co Tryz.func191 ?_;intro β;apply Y 0x6a;intro A3;apply Y 0x7b;intro A4;apply Y 0x549db7c5d8;refine hI 5 1 ?_;apply Y 0xaa38f878;refine lp [] [] (fun q:Nat×Option Addr×Nat=>[(2,.int .i64 e),(3,ag A3 0),(4,ag A4 0),(9,.slice q.2.1 (aI f (us.take q.1)).length q.2.2),(15,.slice U us.length uc),(16,.int .i64 (us.length:Int)),(17,.int .i64 (q.1:Int))]) (kz [_,_,_,_,_,_,_]) (fun q=>[Own 5 1 q.2.1 (aI f (us.take q.1)).length q.2.2 (U8 (aI f (us.take q.1)))]) (fun q=>q.1≤us.length) (fun q=>us.length-q.1) (0,none,0) (Nat.zero_le _) (lk [0,1,2,3,4,5,6] [0]) ?_;apply Y 0xf1e;intro k A c hk
 dsimp only at hk ⊢;apply Zu 0x7930e<;>intro
 ·apply Y 0x122f;intro hk2;have hur:=hu.r k hk2;apply Y 0x472f;intro hrow;apply Y 0x352f;intro hal;apply Y 0xa21f;intro hkz;apply Y 0x512f;intro e1;apply Y 0xcc2f430ff63f73bab1c83f573f4899;intro A27 cc27;apply Y 0x20efb81e;refine QE.round (i:=(k,A,c)) ((k+1,A27,cc27)) ot ot (by exact lk [0,1,2,3,4,5,6] [0] ⟨rfl,rfl,rfl,QY,rfl,rfl,rfl,trivial⟩ (hh:=⟨(congrArg some (ay oac oaO)),trivial⟩))
 apply Y 0x55a9;obtain rfl:k=us.length:=oe;apply Y 0x29e36e;intro hAc;apply Y 0xf21f;intro hal;apply Y 0xa90f;intro hlz;apply Y 0x452f;intro hnb;apply Zu 0xc61fb878<;>intro
 ·apply Y 0x139;refine C.cond rfl (fun _=>?_) (fun h=>by cases h);apply Y 0x802fb0ed848;intro hL;apply Y 0x570f;refine ⟨none,0,?_,?_,rfl,?_⟩
  ·exact Zm 0x295e
  ·exact Zm 0x295e
  exact Zm 0x2de95e
 apply Zu 0x2a7dbc<;>intro
 ·apply Y 0x902fb0ed848;intro hL;apply Y 0x570f;refine ⟨none,0,?_,?_,rfl,?_⟩
  ·exact Zm 0x295e
  ·exact Zm 0x295e
  exact Zm 0x2de95e
 apply Y 0x61e28dbbd;refine sp (Ev.cast (u:=.slice (bh A c (e.toNat-2) 1) ((aI f us).drop (e.toNat-2)).length (c-(e.toNat-2))) (bt (l:=e.toNat-2) rfl rfl rfl rfl rfl oe oe) Q3) ?_;apply Y 0xa8ba;intro A12;apply Y 0x485b;refine L.more (r:=Rd (bh A c (e.toNat-2) 1) (U8 ((aI f us).drop (e.toNat-2)))) (aQ (Has.r 0 rfl) c (e.toNat-2) hAc) ?_;refine ba (js:=[0]) (js':=[]) (eo 312 1 A12 [] (bh A c (e.toNat-2) 1) ((aI f us).drop (e.toNat-2)) (c-(e.toNat-2)) oo) rfl rfl rfl ob hcx rfl ?_ ?_
 rotate_left;apply Y 0x29;intro h42;rw [List.length_drop] at h42;exact Zm 0x18;apply Y 0x1b;intro h42;apply Y 0xc9c9ad549;refine LQ.bool 46 rfl (imp of_decide_eq_true ?_) (imp of_decide_eq_false ?_)<;>intro
 ·apply Y 0x40ed9e9b9b;refine C.cond rfl (fun _=>?_) (fun h=>by cases h);apply Y 0xa02fb0ed848;intro hL;apply Y 0x570f;refine ⟨none,0,?_,?_,rfl,?_⟩
  ·exact Zm 0x295e
  ·exact Zm 0x295e
  exact Zm 0x2de95e
 apply Y 0x562f;intro hlb;apply Y 0x6dc5d1f6dcdcdc;refine sq (Ev.cast (u:=.slice (bh A c (e.toNat-(be2 ((aI f us).drop (e.toNat-2)))) 1) (dt (aI f us) e.toNat).length (c-(e.toNat-(be2 ((aI f us).drop (e.toNat-2)))))) (bE (l:=e.toNat-(be2 ((aI f us).drop (e.toNat-2)))) (h:=e.toNat) rfl rfl rfl rfl rfl rfl oe oe oe oe) OM) ?_;apply Y 0x6310f6210f6;refine LQ.call (.bool (aT (dt (aI f us) e.toNat) (f.size:Int)).isSome) (Fk (bh A c (e.toNat-(be2 ((aI f us).drop (e.toNat-2)))) 1) (dt (aI f us) e.toNat) (c-(e.toNat-(be2 ((aI f us).drop (e.toNat-2))))) (f.size:Int) oe oe oe) (fun _ _ _ h=>h.1) rfl ⟨((Has.sub (Has.r 1 rfl) c (e.toNat-(be2 ((aI f us).drop (e.toNat-2)))) 1 (be2 ((aI f us).drop (e.toNat-2))) oG).cast QB),trivial⟩ rfl ?_;apply Zu 0x3a32ec96<;>intro hc57
 ·have hpn:aT (dt (aI f us) e.toNat) (f.size:Int)=none:=by simpa using hc57
  apply Y 0xb02fb0ed848;intro hL;apply Y 0x570f;refine ⟨none,0,?_,?_,rfl,?_⟩
  ·exact Zm 0x295e
  ·exact Zm 0x295e
  exact Zm 0x2de95e
 obtain ⟨ps,hps⟩:∃ ps,aT (dt (aI f us) e.toNat) (f.size:Int)=some ps:=Option.isSome_iff_exists.1 (by simpa using hc57);apply Y 0x761eb88d;refine sp (Ev.cast (u:=.slice (bh A c (e.toNat-(be2 ((aI f us).drop (e.toNat-2)))) 1) (dt (aI f us) e.toNat).length (c-(e.toNat-(be2 ((aI f us).drop (e.toNat-2)))))) (bE (l:=e.toNat-(be2 ((aI f us).drop (e.toNat-2)))) (h:=e.toNat) rfl rfl rfl rfl rfl rfl oe oe oe oe) OM) ?_;apply Y 0xe8d861e28;refine QE.more (r:=Rd (bh A c (e.toNat-(be2 ((aI f us).drop (e.toNat-2)))) 1) (U8 (dt (aI f us) e.toNat))) (((Has.sub (Has.r 1 rfl) c (e.toNat-(be2 ((aI f us).drop (e.toNat-2)))) 1 (be2 ((aI f us).drop (e.toNat-2))) oG).cast QB)) ?_;have hL:¬cm (aI f us) (f.size:Int) e:=by unfold cm;rw [hps];rintro (h|h|h|h)<;>first|omega|cases h
 apply Y 0x570f;refine ⟨bh A c (e.toNat-(be2 ((aI f us).drop (e.toNat-2)))) 1,c-(e.toNat-(be2 ((aI f us).drop (e.toNat-2)))),?_,?_,rfl,?_⟩
 ·exact Zm 0x2880f
 ·exact Zm 0x2880f
 apply Y 0x880f
 show (dt (aI f us) e.toNat).length≤_;exact Zm 0x18
theorem Cn (f:Fl)(a:Fa)(ok:f.Ok)(hh:a.hs.length=f.data.length){ln la lb l0 l1:Int}{GA VA:Option Addr}{gl gc vl vc:Nat}(us:List Int)(U:Option Addr)(uc:Nat)(hu:UOk f us)(e:Int):
    Ctr X 90 [flV f a,.agg (List.toArray [.int .i64 ln,.int .i64 la,.int .i64 lb,.int .i64 l0,.int .i64 l1,.slice GA gl gc,.slice U us.length uc,.slice VA vl vc]),.int .i64 e] (flR f a++[Rd U (I64 us)]) [] (fun v R' H'=>∃ A c,v=.agg (List.toArray [.slice A (aW (aI f us) (f.size:Int) e).b.length c,.int .i64 (aW (aI f us) (f.size:Int) e).at_,.int .i64 (aW (aI f us) (f.size:Int) e).e])∧R'=[Rd A (U8 (aW (aI f us) (f.size:Int) e).b)]∧H'=[]):=by
 apply Y 0xc1e;intro hok;obtain ⟨os1,os2,on1,on2,owl,odl,orows,ol1,ol2,owear⟩:=ok;apply Y 0x640f;intro hul;refine co Tryz.func90 ?_;intro β;apply Y 0x6a;intro A3;apply Y 0x7b;intro A4;apply Y 0xa8;intro A6;apply Y 0x19c13f63ef4e787cd1ecb;intro A14 c14;apply Y 0x29e549;intro hAc;apply Y 0xf21f;intro hal;apply Y 0xa90f;intro hlz;apply Y 0x452f;intro hnb;apply Zu 0x6d2fb878<;>intro
 ·apply Y 0x139;refine C.cond rfl (fun _=>?_) (fun h=>by cases h);apply Y 0x802fb0e984c8b;intro hL;apply Zu 0xede00f
  ·exact Zm 0x295e
  exact Zm 0x295e
 apply Zu 0x2a7dbc<;>intro
 ·apply Y 0x902fb0e984c8b;intro hL;apply Zu 0xede00f
  ·exact Zm 0x295e
  exact Zm 0x295e
 apply Y 0x7cbd;have hnm:(cU (aI f us) (e.toNat-2))=((be2 ((aI f us).drop (e.toNat-2))):Int):=dB oe;apply Y 0xac;refine sp (Ev.cast (u:=.int .i64 ((e.toNat-2:Nat):Int)) (Ev.sub rfl rfl oe oe) (congrArg (Value.int .i64) oe)) ?_;refine al (jx A14 (aI f us) c14 (e.toNat-2) oe oe) ?_;apply Y 0x88;rw [hnm];apply Zu 0x79d8581<;>intro
 ·apply Y 0xa02fb0e5b8b;intro hL;apply Zu 0xedcc
  ·exact Zm 0x295e
  exact Zm 0x295e
 apply Y 0x562fbd;intro hlb;apply Y 0x761eb878;refine sp (Ev.cast (u:=.slice (bh A14 c14 (e.toNat-(be2 ((aI f us).drop (e.toNat-2)))) 1) (dt (aI f us) e.toNat).length (c14-(e.toNat-(be2 ((aI f us).drop (e.toNat-2)))))) (bE (l:=e.toNat-(be2 ((aI f us).drop (e.toNat-2)))) (h:=e.toNat) rfl rfl rfl rfl rfl rfl oe oe oe oe) OM) ?_;apply Y 0xd5e73eb91;refine L.more (r:=Rd (bh A14 c14 (e.toNat-(be2 ((aI f us).drop (e.toNat-2)))) 1) (U8 (dt (aI f us) e.toNat))) (((Has.sub (Has.r 0 rfl) c14 (e.toNat-(be2 ((aI f us).drop (e.toNat-2)))) 1 (be2 ((aI f us).drop (e.toNat-2))) oG).cast QB)) ?_;refine al (s9 _ (dt (aI f us) e.toNat) _ (f.size:Int) oe) ?_;apply Y 0x6ee;intro rs O oc hrs;apply Zu 0x3a3858d828<;>intro hc46
 ·have hpn:aT (dt (aI f us) e.toNat) (f.size:Int)=none:=by simpa using hc46
  apply Y 0xb02fb0e984c8b;intro hL;apply Zu 0xede00f
  ·exact Zm 0x295e
  exact Zm 0x295e
 obtain ⟨ps,hps⟩:∃ ps,aT (dt (aI f us) e.toNat) (f.size:Int)=some ps:=Option.isSome_iff_exists.1 (by simpa using hc46);apply Y 0xe8984cba61eb88d;refine QE.more (r:=Rd (bh A14 c14 (e.toNat-(be2 ((aI f us).drop (e.toNat-2)))) 1) (U8 (dt (aI f us) e.toNat))) (((Has.sub (Has.r 1 rfl) c14 (e.toNat-(be2 ((aI f us).drop (e.toNat-2)))) 1 (be2 ((aI f us).drop (e.toNat-2))) oG).cast QB)) ?_;have hL:¬cm (aI f us) (f.size:Int) e:=by unfold cm;rw [hps];rintro (h|h|h|h)<;>first|omega|cases h
 apply Y 0xe00f;refine ⟨bh A14 c14 (e.toNat-(be2 ((aI f us).drop (e.toNat-2)))) 1,c14-(e.toNat-(be2 ((aI f us).drop (e.toNat-2)))),?_,?_,rfl⟩
 ·exact Zm 0x2880f
 exact Zm 0x2880f
end Go.Proofs.YtbpddeiogcgegaaGreat
namespace Go.Sl
def Lay.secs (y:Lay):List Int:=(List.range y.n.toNat).map Int.ofNat++y.rest
theorem Bf {y:Lay}{N:Int}(h1:1≤y.n)(h2:y.n≤N):((∀ x∈y.secs,0≤x∧x<N)∧y.secs.Nodup)↔((∀ x∈y.rest,y.n≤x∧x<N)∧y.rest.Nodup):=by
 have hr:∀ x:Int,x∈(List.range y.n.toNat).map Int.ofNat↔0≤x∧x<y.n:=fun x=>by
  rw [List.mem_map]
  constructor
  ·rintro ⟨k,hk,rfl⟩;have:=List.mem_range.1 hk
   show 0≤(k:Int)∧(k:Int)<y.n;exact Zm 0x18
  apply Y 0x7ee;intro h3 h4;exact ⟨x.toNat,List.mem_range.2 oe,by show ((x.toNat:Nat):Int)=x;omega⟩
 have hn:((List.range y.n.toNat).map Int.ofNat).Nodup:=by
  rw [List.Nodup,List.pairwise_map]
  exact List.Pairwise.imp (fun h e=>h (Int.ofNat.inj e)) List.nodup_range
 unfold Lay.secs;rw [List.nodup_append]
 constructor
 ·rintro ⟨h3,_,h5,h6⟩;refine ⟨fun x hx=>?_,h5⟩;have h7:=h3 x (List.mem_append_right _ hx);refine ⟨?_,h7.2⟩
  rcases Int.lt_or_le x y.n with h|h
  ·exact absurd rfl (h6 x ((hr x).2 ⟨h7.1,h⟩) x hx)
  exact Zm 0xc2e
 apply Y 0x7ee;intro h3 h4;refine ⟨fun x hx=>?_,hn,h4,fun x hx z hz e=>?_⟩
 ·rcases List.mem_append.1 hx with h|h
  ·have:=(hr x).1 h;exact Zm 0x18
  have:=h3 x h;exact Zm 0x18
 subst e;have:=(hr x).1 hx;have:=h3 x hz;exact Zm 0x18
def gj (l:List Int):List Int:=l.mergeSort fun x y=>decide (x≤y)
theorem tM (l:List Int):(gj l).Perm l:=List.mergeSort_perm l _
theorem gL (l:List Int):(gj l).length=l.length:=List.length_mergeSort l
theorem yG (l:List Int)(x:Int):x∈gj l↔x∈l:=(tM l).mem_iff
theorem FU (l:List Int):(gj l).Pairwise (· ≤·):=by
 have h:=List.pairwise_mergeSort (le:=fun x y:Int=>decide (x≤y)) (fun a b c h1 h2=>by simp only [decide_eq_true_eq] at h1 h2 ⊢;omega) (fun a b=>by simp only [Bool.or_eq_true,decide_eq_true_eq];omega) l
 exact h.imp fun h=>by simpa using h
theorem iG (l:List Int){i j:Nat}(hij:i≤j)(hj:j<(gj l).length):(gj l).getD i 0≤(gj l).getD j 0:=by
 rcases Nat.lt_or_eq_of_le hij with h|rfl
 ·have:=List.pairwise_iff_getElem.1 (FU l) i j oe hj h
  simpa [List.getD_eq_getElem?_getD,hj,show i<(gj l).length by omega] using this
 exact Int.le_refl _
theorem yD {l:List Int}{n N:Int}(h0:0<l.length):(n≤(gj l).getD 0 0∧(gj l).getD (l.length-1) 0<N)↔∀ x∈l,n≤x∧x<N:=by
 have hl:=gL l
 constructor
 ·rintro ⟨h1,h2⟩ x hx;obtain ⟨i,hi,rfl⟩:=List.mem_iff_getElem.1 ((yG l x).2 hx);have e:(gj l)[i]=(gj l).getD i 0:=by simp [List.getD_eq_getElem?_getD,hi]
  rw [e];have:=iG l (Nat.zero_le i) hi;have:=iG l (show i≤l.length-1 by omega) oe;exact Zm 0x18
 intro h;have hg:∀ i,i<l.length→n≤(gj l).getD i 0∧(gj l).getD i 0<N:=fun i hi=>by
  have e:(gj l).getD i 0=(gj l)[i]'oe:=by simp [List.getD_eq_getElem?_getD,show i<(gj l).length by omega]
  rw [e]
  exact h _ ((yG l _).1 (List.getElem_mem _))
 exact ⟨(hg 0 h0).1,(hg _ oe).2⟩
theorem Gr {zs:List Int}:(Lib.compact zs).length=zs.length↔∀ j,j<zs.length→Lib.keeps zs.toArray j=true:=by
 constructor
 ·intro h j hj
  unfold Lib.compact Lib.compactUpTo at h;rw [List.length_map] at h;have h2:((List.range zs.length).filter (Lib.keeps zs.toArray)).length=(List.range zs.length).length:=by rw [h,List.length_range]
  exact List.length_filter_eq_length_iff.1 h2 j (List.mem_range.2 hj)
 intro h;rw [Lib.compact_all zs h]
theorem yE (l:List Int):(Lib.compact (gj l)).length=l.length↔l.Nodup:=by
 rw [← gL l,Gr,← (tM l).nodup_iff];have get:∀ j,j<(gj l).length→(gj l).toArray[j]! =(gj l).getD j 0:=fun j hj=>by simp [List.getD_eq_getElem?_getD,hj]
 constructor
 ·intro h;apply Y 0x4b3f;intro i j hi hj hij e;have h1:=h j hj
  unfold Lib.keeps at h1;rw [decide_eq_true_eq,get j hj,get (j-1) oe] at h1;have h2:=iG l (show i≤j-1 by omega) oe;have h3:=iG l (show j-1≤j by omega) hj;have e1:(gj l).getD i 0=(gj l).getD j 0:=by
   simpa [List.getD_eq_getElem?_getD,hi,hj] using e
  rcases h1 with h1|h1
  ·exact Zm 0x18
  exact h1 oe
 intro h j hj
 unfold Lib.keeps;rw [decide_eq_true_eq]
 by_cases h0:j=0
 ·exact .inl h0
 right;rw [get j hj,get (j-1) oe];intro e;have:=List.pairwise_iff_getElem.1 h (j-1) j oe hj oe
 exact this (by simpa [List.getD_eq_getElem?_getD,hj,show j-1<(gj l).length by omega] using e.symm)
end Go.Sl
namespace Go.Proofs.YtbpddeiogcgegaaGreat
open Go.Sl
theorem sM (y:Lay):y.secs.length=y.n.toNat+4+y.gs.length+y.us.length+y.ls.length:=by
 unfold Lay.secs Lay.rest
 simp only [List.length_append,List.length_map,List.length_range,List.length_cons,List.length_nil];exact Zm 0x18
theorem Be (y:Lay):I64 (NI (List.range y.n.toNat))++[.int .i64 y.a,.int .i64 y.b,.int .i64 y.s0,.int .i64 y.s1]++I64 y.gs++I64 y.us++I64 y.ls=I64 y.secs:=by
 unfold Lay.secs Lay.rest;rw [← cK,← cK,← cK,← cK,← List.append_assoc,← List.append_assoc,← List.append_assoc];exact Zm 0x2
theorem Bg (y:Lay)(G U V:Option Addr)(gc uc vc:Nat)(hyn: -1000000≤y.n∧y.n≤1000000)(hyl:y.gs.length≤1000∧y.us.length≤1000∧y.ls.length≤1000)(hn0:0≤y.n):
    Ctr X 63 [.agg (List.toArray (di y G U V gc uc vc))] [Rd G (I64 y.gs),Rd U (I64 y.us),Rd V (I64 y.ls)] [] (fun v R' H'=>∃ (A:Option Addr) (c:Nat),v=.slice A y.secs.length c∧R'=[]∧H'=[Own 3 1 A y.secs.length c (I64 y.secs)]):=by
 refine co Tryz.func63 ?_;intro β;apply Y 0x6a;intro A1;apply Y 0x2bdb49;intro A5;apply Y 0xcd49;refine lp [] [] (fun q:Nat×Option Addr×Nat=>[(1,ag A1 0),(4,.int .i64 (q.1:Int)),(3,.slice q.2.1 (NI (List.range q.1)).length q.2.2)]) (kz [_,_,_,_]) (fun q=>[Own 3 1 q.2.1 (NI (List.range q.1)).length q.2.2 (I64 (NI (List.range q.1)))]) (fun q=>(q.1:Int)≤y.n) (fun q=>y.n.toNat-q.1) (0,A5,0) ot (lk [0,1,2,3] [0]) ?_;apply Y 0xf1e;intro i A c hi
 dsimp only at hi ⊢;apply Zu 0x791f8758<;>intro
 ·apply Y 0x99;have hnl2:(NI (List.range i)).length=i:=oaJ;apply Y 0x2bac;intro A14;refine L.append (j:=0) rfl rfl rfl rfl ob rfl rfl rfl rfl (Src.o 1 rfl) rfl (by intro v hv;simp at hv;subst hv;rfl) oe oU rfl (fun A15 cc15=>?_);apply Y 0x9a81e;have he:NI (List.range (i+1))=NI (List.range i)++[((i:Nat):Int)]:=by rw [List.range_succ,Ez];rfl
  refine QE.round (i:=(i,A,c)) ((i+1,A15,cc15)) ot ot (by exact lk [0,1,2,3] [0] ⟨rfl,rfl,OH,trivial⟩ (hh:=⟨(congrArg some (ay OH QQ)),trivial⟩))
 apply Y 0x5a9;obtain rfl:i=y.n.toNat:=oe;have hnl2:(NI (List.range y.n.toNat)).length=y.n.toNat:=oaJ;apply Y 0x21eab;refine sp (av (k:=0) (m:=1) rfl rfl rfl rfl rfl rfl ob (Src.r 0 rfl) (Nat.zero_lt_of_lt (show 1<8 by decide)) rfl) ?_;apply Y 0x21ea4e;refine sp (av (k:=1) (m:=2) rfl rfl rfl rfl rfl rfl ob (Src.r 0 rfl) (Nat.zero_lt_of_lt (show 1<8 by decide)) rfl) ?_;apply Y 0x21ea4e;refine sp (av (k:=0) (m:=3) rfl rfl rfl rfl rfl rfl ob (Src.r 0 rfl) (Nat.zero_lt_of_lt (show 1<8 by decide)) rfl) ?_;apply Y 0x21ea4e;refine sp (av (k:=1) (m:=4) rfl rfl rfl rfl rfl rfl ob (Src.r 0 rfl) (Nat.zero_lt_of_lt (show 1<8 by decide)) rfl) ?_;apply Y 0x2ba4e;intro A29;refine L.append (j:=0) rfl rfl rfl rfl ob rfl rfl rfl rfl (Src.o 1 rfl) rfl (by intro v hv;simp at hv;rcases hv with rfl|rfl|rfl|rfl<;>rfl) oe oU rfl (fun A30 cc30=>?_);apply Y 0xf8b91;refine L.append (j:=0) rfl rfl rfl rfl ob rfl rfl rfl rfl (Src.r 1 rfl) oY (cY _) oe oU rfl (fun A34 cc34=>?_);apply Y 0xf8b91;refine L.append (j:=0) rfl rfl rfl rfl ob rfl rfl rfl rfl (Src.r 2 rfl) oY (cY _) oe oU rfl (fun A38 cc38=>?_);apply Y 0xf8b91;refine L.append (j:=0) rfl rfl rfl rfl ob rfl rfl rfl rfl (Src.r 3 rfl) oY (cY _) oe oU rfl (fun A42 cc42=>?_);apply Y 0x91ee81;have hlen:(NI (List.range y.n.toNat)).length+4+y.gs.length+y.us.length+y.ls.length=y.secs.length:=by
  rw [hnl2,sM]
 refine ⟨A42,cc42,?_,rfl,?_⟩
 ·exact congrArg (fun m=>Value.slice A42 m cc42) hlen
 exact congrArg (fun x=>[x]) (ay hlen (by rw [Be]))
theorem Fz {f:Fl}(h:f.Ok):okB (f.size:Int) f=true:=by
 obtain ⟨s1,s2,n1,n2,wl,dl,rows,l1,l2,wear⟩:=h;refine rp ⟨by omega,by omega,l1,l2,n1,n2,wl,dl⟩ fun i hi=>?_
 have h1:=rows i hi;have h2:=wear i hi
 unfold okR
 first
  |exact decide_eq_true ⟨by omega,h2.1,h2.2⟩
  |simp only [Bool.and_eq_true,decide_eq_true_eq];omega
def Cm (z:Int)(f:Fl)(y:Lay):Bool:=
  okB z f&&decide (38≤z∧1≤y.n∧y.n≤(f.data.length:Int)∧1≤y.gs.length∧y.gs.length≤8∧(∀ x∈y.rest,y.n≤x∧x<(f.data.length:Int))∧y.rest.Nodup)
theorem rI {f:Fl}(h:f.Ok)(y:Lay):Cm (f.size:Int) f y=eT f y:=by
 unfold Cm eT;rw [Fz h,decide_eq_true h,Bool.true_and,Bool.true_and,decide_eq_decide]
 constructor
 ·apply Y 0x7ee;intro q r;exact ⟨by omega,r⟩
 apply Y 0x7ee;intro q r;exact ⟨by omega,r⟩
theorem l4 {z:Int}{f:Fl}{y:Lay}:Cm z f y=true↔okB z f=true∧38≤z∧1≤y.n∧y.n≤(f.data.length:Int)∧1≤y.gs.length∧y.gs.length≤8∧(∀ x∈y.rest,y.n≤x∧x<(f.data.length:Int))∧y.rest.Nodup:=by
 unfold Cm;rw [Bool.and_eq_true,decide_eq_true_eq]
theorem eS {z:Int}{f:Fl}{y:Lay}(h:¬(okB z f=true∧38≤z∧1≤y.n∧y.n≤(f.data.length:Int)∧1≤y.gs.length∧y.gs.length≤8∧(∀ x∈y.rest,y.n≤x∧x<(f.data.length:Int))∧y.rest.Nodup)):Cm z f y=false:=by
 rw [← Bool.not_eq_true,l4];exact Zm 0xc2e
theorem jz {l:List Int}{j:Nat}(h:j<l.length):l.getD j 0∈l:=by
 exact Zm 0xe40f580f
theorem tK {z:Int}{f:Fl}{y:Lay}(h:okB z f=true∧38≤z∧1≤y.n∧y.n≤(f.data.length:Int)∧1≤y.gs.length∧y.gs.length≤8):
    Cm z f y=true↔(∀ j,j<y.secs.length→0≤y.secs.getD j 0∧y.secs.getD j 0<(f.data.length:Int))∧∀ j,j<y.secs.length→∀ k,k<j→y.secs.getD k 0≠y.secs.getD j 0:=by
 have e:=Bf (y:=y) h.2.2.1 h.2.2.2.1;rw [l4]
 constructor
 ·rintro ⟨_,_,_,_,_,_,h1,h2⟩;obtain ⟨q1,q2⟩:=e.2 ⟨h1,h2⟩;exact ⟨fun j hj=>q1 _ (jz hj),fun j hj k hk=>eO q2 k j hk hj⟩
 apply Y 0x7ee;intro q1 q2;have m1:∀ x∈y.secs,0≤x∧x<(f.data.length:Int):=fun x hx=>by
  obtain ⟨j,hj,rfl⟩:=List.getElem_of_mem hx;have:=q1 j hj
  rwa [List.getD_eq_getElem?_getD,List.getElem?_eq_getElem hj] at this
 have m2:y.secs.Nodup:=by
  apply Y 0x4b3f;intro i j hi hj hij ee;have:=q2 j hj i hij;rw [List.getD_eq_getElem?_getD,List.getD_eq_getElem?_getD,List.getElem?_eq_getElem hi,List.getElem?_eq_getElem hj] at this
  exact this ee
 obtain ⟨h1,h2⟩:=e.1 ⟨m1,m2⟩;exact ⟨h.1,h.2.1,h.2.2.1,h.2.2.2.1,h.2.2.2.2.1,h.2.2.2.2.2,h1,h2⟩
theorem ni (y:Lay):y.rest.length=4+y.gs.length+y.us.length+y.ls.length:=by
 unfold Lay.rest
 simp only [List.length_append,List.length_cons,List.length_nil]
theorem l3 {z:Int}{f:Fl}{y:Lay}(h:okB z f=true∧38≤z∧1≤y.n∧y.n≤(f.data.length:Int)∧1≤y.gs.length∧y.gs.length≤8):
    Cm z f y=true↔(y.n≤(gj y.rest).getD 0 0∧(gj y.rest).getD (y.rest.length-1) 0<(f.data.length:Int))∧(Lib.compact (gj y.rest)).length=y.rest.length:=by
 have h0:0<y.rest.length:=by rw [ni];omega
 rw [l4,yD h0,yE];exact ⟨fun q=>⟨q.2.2.2.2.2.2.1,q.2.2.2.2.2.2.2⟩,fun q=>⟨h.1,h.2.1,h.2.2.1,h.2.2.2.1,h.2.2.2.2.1,h.2.2.2.2.2,q.1,q.2⟩⟩
theorem ff {R H:List Pr}{A:Option Addr}{c:Nat}{xs:List Value}{hs:List Hd}{vss:List (List Value)}(h1:Has R H (Rd A xs))(h:Has R H (aS hs vss)):Has R H (aS ((A,c)::hs) (xs::vss)):=
  ⟨fun β w q i hd v hh hv=>match i,hh,hv with
    |0,hh,hv=>by
      obtain rfl:(A,c)=hd:=obi
      obtain rfl:xs=v:=obk
      exact h1.1 β w q
    |i+1,hh,hv=>h.1 β w q i hd v obi obk,
   fun k ⟨i,hd,v,hh,hv,hk⟩=>match i,hh,hv with
    |0,hh,hv=>by
      obtain rfl:(A,c)=hd:=obi
      obtain rfl:xs=v:=obk
      exact h1.2 k hk
    |i+1,hh,hv=>h.2 k ⟨i,hd,v,by simpa using hh,by simpa using hv,hk⟩⟩
theorem yX (y:Lay)(G U V:Option Addr)(gc uc vc:Nat)(A:Option Addr):[Value.slice (A.map (·.add 1)) 2 2,.slice (A.map (·.add 3)) 2 2,.slice G y.gs.length gc,.slice U y.us.length uc,.slice V y.ls.length vc]=aC [(A.map (·.add 1),2),(A.map (·.add 3),2),(G,gc),(U,uc),(V,vc)] (J8 [[y.a,y.b],[y.s0,y.s1],y.gs,y.us,y.ls]):=by
 simp [aC,J8,bw]
theorem zx (A:Option Addr)(l:List Int)(c m:Nat)(hm:l.length=m)(hl:l.length≤1000000):
    Ctr X 61 [.slice A m c] [] [Own 3 1 A m c (I64 l)] (fun v R' H'=>v=.slice A (Lib.compact l).length c∧R'=[]∧H'=[Own 3 1 A (Lib.compact l).length c (I64 (Lib.compact l))]):=by
 subst hm
 exact zy A l c hl
theorem nR (y:Lay):[[y.a,y.b],[y.s0,y.s1],y.gs,y.us,y.ls].flatten=y.rest:=by simp [Lay.rest]
theorem Ge {y:Lay}(h:y.gs.length≤1000∧y.us.length≤1000∧y.ls.length≤1000):∀ i,([[y.a,y.b],[y.s0,y.s1],y.gs,y.us,y.ls].getD i []).length≤9223372036854775807
  |0=>show 2≤_ by decide
  |1=>show 2≤_ by decide
  |2=>show y.gs.length≤_ by omega
  |3=>show y.us.length≤_ by omega
  |4=>show y.ls.length≤_ by omega
  |i+5=>show 0≤_ by decide
theorem mN (z:Int)(f:Fl)(a:Fa)(hh:a.hs.length=f.data.length)(hn:f.data.length≤9223372036854775807)(y:Lay)(G U V:Option Addr)(gc uc vc:Nat)(hyn: -1000000≤y.n∧y.n≤1000000)(hyl:y.gs.length≤1000∧y.us.length≤1000∧y.ls.length≤1000):
    Ctr X 24 [.agg (List.toArray [.int .i64 z,.slice a.D f.data.length a.cD,.slice a.W f.wear.length a.cW,.int .i64 f.limit,.slice a.E f.dead.length a.cE]),.agg (List.toArray (di y G U V gc uc vc))] (flR f a++[Rd G (I64 y.gs),Rd U (I64 y.us),Rd V (I64 y.ls)]) [] (fun v R' H'=>v=.bool (Cm z f y)∧R'=[]∧H'=[]):=by
 refine co Tryz.func24 ?_;intro β;apply Y 0x6a;intro A2;apply Y 0x7b;intro A3;apply Y 0xf4edb8c7c549;refine al (v7 z f a hh hn) ?_;apply Y 0x2888;refine L.bool 11 rfl ?_ ?_<;>intro hg11
 ·apply Y 0x11d1dfd1dca28ca;refine C.cond rfl (fun _=>?_) (fun h=>by cases h);apply Y 0xe9e;have hgA:(!okB z f)=true:=hg11;apply Y 0x4b;exact ⟨congrArg Value.bool (eS fun q=>by rw [q.1] at hgA;cases hgA).symm,rfl,rfl⟩
 apply Zu 0x461fb84a1e480e4<;>intro
 ·apply Y 0x11d1dfd1dca;refine C.cond rfl (fun _=>?_) (fun h=>by cases h);exact Zm 0x5b2f6c
 apply Zu 0x761fb84eb<;>intro
 ·apply Y 0x11d1dfd39;refine C.cond rfl (fun _=>?_) (fun h=>by cases h);exact Zm 0x6b2f6c
 apply Zu 0xa61fb8f9a1e480e4eb<;>intro
 ·apply Y 0x11d39;refine C.cond rfl (fun _=>?_) (fun h=>by cases h);exact Zm 0x7b2f6c
 apply Zu 0xa50fb8f9eb<;>intro
 ·apply Y 0x139;refine C.cond rfl (fun _=>?_) (fun h=>by cases h);exact Zm 0x8b2f6c
 apply Zu 0x2af9eb<;>intro
 ·exact Zm 0x9b2f6c
 apply Y 0xbd;have hb6:okB z f=true∧38≤z∧1≤y.n∧y.n≤(f.data.length:Int)∧1≤y.gs.length∧y.gs.length≤8:=⟨by simpa using hg11,by omega,by omega,by omega,by omega,by omega⟩;have hsl:=sM y;apply Y 0x63e78;refine al (Bg y G U V gc uc vc hyn hyl oe) ?_;apply Y 0x19;intro SA sc;apply Y 0xaa1db5494a;refine lp [2,5] [_,_] (fun i:Nat=>[(6,.int .i64 (i:Int))]) (kz [_,_]) nz (fun i=>i≤y.secs.length∧(∀ j,j<i→0≤y.secs.getD j 0∧y.secs.getD j 0<(f.data.length:Int))∧(∀ j,j<i→∀ k,k<j→y.secs.getD k 0≠y.secs.getD j 0)) (fun i=>y.secs.length-i) 0 ⟨Nat.zero_le _,fun j h=>absurd h (Nat.not_lt_zero _),fun j h=>absurd h (Nat.not_lt_zero _)⟩ (lk [0,2] []) ?_;apply Y 0xd92f;intro i hi h1 h2;apply Zu 0x2a9d<;>intro
 ·apply Y 0xc95fecc1fc9ad5599;refine LQ.bool 54 rfl (imp of_decide_eq_true ?_) (imp of_decide_eq_false ?_)<;>intro
  ·apply Y 0x40e9b9b;refine C.cond rfl (fun _=>?_) (fun h=>by cases h);apply Y 0xec4b3d93ee9e
   symm;apply Y 0xdd1f
   exact fun q=>by have:=(q.1 i oe).1;omega
  apply Zu 0x7932ec96dc83e6c3e65fe6cc1f6dcdc<;>intro
  ·apply Y 0xec4b3d93ee9e
   symm;apply Y 0xdd1f
   exact fun q=>by have:=(q.1 i oe).2;omega
  apply Y 0xcd59;refine lp [2,5,6] [_,_,_] (fun k:Nat=>[(7,.int .i64 (k:Int))]) (kz [_,_]) nz (fun k=>k≤i∧∀ j,j<k→y.secs.getD j 0≠y.secs.getD i 0) (fun k=>i-k) 0 ⟨Nat.zero_le _,fun j h=>absurd h (Nat.not_lt_zero _)⟩ (lk [0,1] []) ?_;apply Y 0xb1e;intro k hk h3;apply Zu 0x79d858<;>intro
  ·apply Zu 0x4d40e5fecc1fc95feba3fc9ad599<;>intro hc77
   ·apply Y 0xec4b3d93eaaebaea0e
    symm;apply Y 0xdd1f
    exact fun q=>q.2 i oe k oe hc77
   apply Y 0x9a7a;refine QE.round (k+1) (by exact ⟨by omega,fun j hj=>by by_cases e:j=k;(subst e;exact hc77);exact h3 j oe⟩) oe (lk [0,1] [])
  apply Y 0x9ae5e;obtain rfl:k=i:=oe;refine QE.round (i:=k) (k+1) (by exact ⟨by omega,fun j hj=>by by_cases e:j=k;(subst e;omega);exact h1 j oe,fun j hj q hq=>by by_cases e:j=k;(subst e;exact h3 q hq);exact h2 j oe q hq⟩) oe (lk [0,1] [])
 apply Y 0xd91aa9;obtain rfl:i=y.secs.length:=oe;exact ⟨congrArg Value.bool ((tK hb6).2 ⟨h1,h2⟩).symm,rfl,rfl⟩
theorem fh (z:Int)(f:Fl)(a:Fa)(hh:a.hs.length=f.data.length)(hn:f.data.length≤9223372036854775807)(y:Lay)(G U V:Option Addr)(gc uc vc:Nat)(hyn: -1000000≤y.n∧y.n≤1000000)(hyl:y.gs.length≤1000∧y.us.length≤1000∧y.ls.length≤1000):
    Ctr X 23 [.agg (List.toArray [.int .i64 z,.slice a.D f.data.length a.cD,.slice a.W f.wear.length a.cW,.int .i64 f.limit,.slice a.E f.dead.length a.cE]),.agg (List.toArray (di y G U V gc uc vc))] (flR f a++[Rd G (I64 y.gs),Rd U (I64 y.us),Rd V (I64 y.ls)]) [] (fun v R' H'=>v=.bool (Cm z f y)∧R'=[]∧H'=[]):=by
 refine co Tryz.func23 ?_;intro β;apply Y 0x6a;intro A2;apply Y 0x7b;intro A3;apply Y 0xf4edb8c7c549;refine al (EE z f a hh hn) ?_;apply Y 0x2888;refine L.bool 9 rfl ?_ ?_<;>intro hg9
 ·apply Y 0x11d1dfd1dca28ca;refine C.cond rfl (fun _=>?_) (fun h=>by cases h);apply Y 0xe9e;have hgA:(!okB z f)=true:=hg9;apply Y 0x4b;exact ⟨congrArg Value.bool (eS fun q=>by rw [q.1] at hgA;cases hgA).symm,rfl,rfl⟩
 apply Zu 0x161fb84a1e480e4<;>intro
 ·apply Y 0x11d1dfd1dca;refine C.cond rfl (fun _=>?_) (fun h=>by cases h);exact Zm 0x5b2f6c
 apply Zu 0x7d2fb84eb<;>intro
 ·apply Y 0x11d1dfd39;refine C.cond rfl (fun _=>?_) (fun h=>by cases h);exact Zm 0x6b2f6c
 apply Zu 0xdd2fb8f9a1e480e4eb<;>intro
 ·apply Y 0x11d39;refine C.cond rfl (fun _=>?_) (fun h=>by cases h);exact Zm 0x7b2f6c
 apply Zu 0xfd2fb8f9eb<;>intro
 ·apply Y 0x139;refine C.cond rfl (fun _=>?_) (fun h=>by cases h);exact Zm 0x8b2f6c
 apply Zu 0x2af9eb<;>intro
 ·exact Zm 0x9b2f6c
 apply Y 0xbd;have hb6:okB z f=true∧38≤z∧1≤y.n∧y.n≤(f.data.length:Int)∧1≤y.gs.length∧y.gs.length≤8:=⟨by simpa using hg9,by omega,by omega,by omega,by omega,by omega⟩;have hsl:=ni y;refine C.join (fun q:Option Addr×Nat=>[(2,ag A2 0),(3,ag A3 0),(5,.slice q.1 y.rest.length q.2)]) (fun q:Option Addr×Nat=>[Rd A3 (di y G U V gc uc vc),Rd A2 [.int .i64 z,.slice a.D f.data.length a.cD,.slice a.W f.wear.length a.cW,.int .i64 f.limit,.slice a.E f.dead.length a.cE],Rd a.D (aC a.hs (B8 f.data)),aS a.hs (B8 f.data),Rd a.W (I64 f.wear),Rd a.E (Bs f.dead),Rd G (I64 y.gs),Rd U (I64 y.us),Rd V (I64 y.ls)]) (fun q:Option Addr×Nat=>[Own 3 1 q.1 y.rest.length q.2 (I64 y.rest)]) (fun q:Option Addr×Nat=>True) ?_ ?_
 ·apply Y 0xdee3de;refine mq 1 rfl (j9 rfl rfl rfl rfl (Src.r 0 rfl) (Nat.le_of_ble_eq_true rfl)) ?_;apply Y 0xf60f;refine mq 3 rfl (j9 rfl rfl rfl rfl (Src.r 0 rfl) (Nat.le_of_ble_eq_true rfl)) ?_;apply Y 0x2f0f370f;refine mq 6 rfl (faR 0) ?_;refine mq 7 rfl (ldR 0) ?_;apply Y 0x2bf6e69a4e96e321e74e;intro A49;apply Y 0x66e3;refine L.call (js:=[]) (js':=[0]) (ui A49 [[y.a,y.b],[y.s0,y.s1],y.gs,y.us,y.ls] 5 [(A3.map (·.add 1),2),(A3.map (·.add 3),2),(G,gc),(U,uc),(V,vc)] rfl (show 5≤_ by decide) (Ge hyl) (by rw [nR];omega)) rfl rfl rfl ob ⟨((Has.o 0 rfl).cast (yX y G U V gc uc vc _)),(ff ((Has.at (xs:=(di y G U V gc uc vc)) (Has.r 0 rfl) 1 2).cast rfl) (ff ((Has.at (xs:=(di y G U V gc uc vc)) (Has.r 0 rfl) 3 2).cast rfl) (ff (Has.r 6 rfl) (ff (Has.r 7 rfl) (ff (Has.r 8 rfl) Has.kids0))))),trivial⟩ rfl ?_;rw [nR];apply Y 0x19;intro SA sc;apply Y 0x5c68e32c;refine aX ((SA,sc)) OS (lk [0,1,2,3,4,5,6,7,8] [0])
 rintro ⟨SA,sc⟩ _;apply Y 0xb98ad4e;refine j6 (js:=[0]) (js':=[]) (DL SA y.rest sc oe) rfl rfl rfl rfl rfl ob trivial rfl ?_;apply Y 0x88;rw [show (y.rest.mergeSort fun x y=>decide (x≤y))=gj y.rest from rfl];apply Y 0xf20fbde43e3decb4a;refine mfo 1 ?_;refine sp (ae (k:=0) rfl rfl rfl rfl rfl rfl rfl oe (Src.o 0 rfl) (by rw [bw,gL];omega)) ?_;apply Y 0x5aea6e3d73f3ae3;refine LM.bool 59 rfl (imp of_decide_eq_true ?_) (imp of_decide_eq_false ?_)<;>intro hg59
 ·refine my 7 rfl (Ev.pure rfl) ?_;refine my 8 rfl (Ev.pure rfl) ?_;refine my 9 rfl (Ev.pure rfl) ?_;refine my 10 rfl (Ev.sub rfl rfl oe oe) ?_;refine my 13 rfl (faR 1) ?_;refine my 14 rfl (ldR 1) ?_;refine my 15 rfl (Ev.pure rfl) ?_;apply Y 0x434e;refine sp (ae (k:=(y.rest.length-1)) rfl rfl rfl rfl rfl rfl oe oe (Src.o 0 rfl) (by rw [bw,gL];omega)) ?_;apply Y 0x3d73f4b3e3;refine my 16 rfl (Ev.pure rfl) ?_;apply Y 0x6a1fc00f;refine LM.bool 71 rfl (imp of_decide_eq_true ?_) (imp of_decide_eq_false ?_)<;>intro hg71
  ·refine my 19 rfl (Ev.pure rfl) ?_;refine my 22 rfl (faR 0) ?_;refine my 23 rfl (ldR 0) ?_;refine my 24 rfl (Ev.pure rfl) ?_;refine my 25 rfl (faR 0) ?_;refine my 26 rfl (ldR 0) ?_;refine my 27 rfl (Ev.pure rfl) ?_;refine my 28 rfl (Ev.add rfl rfl oe oe) ?_;refine my 29 rfl (faR 0) ?_;refine my 30 rfl (ldR 0) ?_;refine my 31 rfl (Ev.pure rfl) ?_;refine my 32 rfl (Ev.add rfl rfl oe oe) ?_;refine my 33 rfl (Ev.add rfl rfl oe oe) ?_;apply Y 0x4d20f;refine L.call (js:=[0]) (js':=[]) (zx SA (gj y.rest) sc y.rest.length (gL _) obJ) rfl rfl rfl ob trivial rfl ?_;apply Y 0x34a88;refine mfo 21 ?_;apply Y 0xecd98a5c9d0f37f71f3bc8d0f69bc;rw [Bool.eq_iff_iff,l3 hb6,beq_iff_eq];exact ⟨fun h=>⟨⟨hg59,hg71⟩,by omega⟩,fun h=>by have:=h.2;omega⟩
  refine mno 19 ?_;refine mno 20 ?_;refine mno 21 ?_;refine mno 22 ?_;refine mno 23 ?_;refine mno 24 ?_;refine mno 25 ?_;refine mno 26 ?_;refine mno 27 ?_;refine mno 28 ?_;refine mfo 29 ?_;apply Y 0x324e;refine mfo 30 ?_;apply Y 0x324e;refine mfo 31 ?_;apply Y 0x324e;refine mfo 32 ?_;apply Y 0x324e;refine mfo 33 ?_;apply Y 0xecd98a5c9d0f37f71f324e8d0f6924e
  symm;rw [← Bool.not_eq_true,l3 hb6]
  exact fun q=>by have:=q.1.2;omega
 refine mno 7 ?_;refine mno 8 ?_;refine mno 9 ?_;refine mno 10 ?_;refine mno 11 ?_;refine mno 12 ?_;refine mno 13 ?_;refine mno 14 ?_;refine mno 15 ?_;refine mno 16 ?_;apply Y 0x6a1fc00f;refine mno 19 ?_;refine mno 20 ?_;refine mno 21 ?_;refine mno 22 ?_;refine mno 23 ?_;refine mno 24 ?_;refine mno 25 ?_;refine mno 26 ?_;refine mno 27 ?_;refine mno 28 ?_;refine mfo 29 ?_;apply Y 0x324e;refine mfo 30 ?_;apply Y 0x324e;refine mfo 31 ?_;apply Y 0x324e;refine mfo 32 ?_;apply Y 0x324e;refine mfo 33 ?_;apply Y 0xecd98a5c9d0f37f71f324e8d0f6924e
 symm;rw [← Bool.not_eq_true,l3 hb6]
 exact fun q=>by have:=q.1.1;omega
end Go.Proofs.YtbpddeiogcgegaaGreat
