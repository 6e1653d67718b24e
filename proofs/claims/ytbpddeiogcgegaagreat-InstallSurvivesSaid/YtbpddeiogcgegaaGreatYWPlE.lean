/-
  Part of a proof.
-/
import Derived.Test.YtbpddeiogcgegaaGreatYWPlC
set_option maxHeartbeats 0
set_option maxRecDepth 4000
set_option linter.all false
namespace Go.Proofs.YtbpddeiogcgegaaGreat
open Go.Sl
theorem zg (l:List Int):(tH l).length=l.length:=(eH l).length_eq
theorem x1 (A:Option Addr)(l:List Nat)(c:Nat)(n:Int)(hl:l.length≤9223372036854775807):Ctr X 200 [.slice A l.length c,.int .i64 n] [Rd A (I64 (NI l))] [] (fun v R' H'=>v=.bool ((NI l).contains n)∧R'=[]∧H'=[]):=by
 have:=mL A (NI l) c n obH;rw [bb] at this
 exact this
theorem Ig (A:Option Addr)(l:List Nat)(c:Nat)(n:Int)(hl:l.length≤9223372036854775807):Ctr X 134 [.slice A l.length c,.int .i64 n] [Rd A (I64 (NI l))] [] (fun v R' H'=>v=.int .i64 (fe (NI l) n)∧R'=[]∧H'=[]):=by
 have:=fy A (NI l) c n obH;rw [bb] at this
 exact this
theorem Gs {l:List Int}{t:Int}(h:fe l t<0):l.contains t=false:=by
 have:=wt (l:=l) (t:=t);rw [decide_eq_true h] at this
 simpa using this.symm
theorem uk {l:List Int}{t:Int}(h:¬fe l t<0):l.contains t=true:=by
 have:=wt (l:=l) (t:=t);rw [decide_eq_false h] at this
 simpa using this.symm
theorem DQ {row:List Int}{p:Nat→Bool}{j t:Nat}(h:∀ k,k<j→∀ t:Nat,row.getD k 0=(t:Int)→p t=true)(ht:row.getD j 0=(t:Int))(hx:p t=true):∀ k,k<j+1→∀ t:Nat,row.getD k 0=(t:Int)→p t=true:=by
 intro k hk t' ht'
 rcases Nat.lt_or_ge k j with g|g
 ·exact h k g t' ht'
 obtain rfl:k=j:=oe;rw [ht] at ht';obtain rfl:t=t':=oe
 exact hx
theorem pL (sz n:Int)(lf:Bool)(inn out:Int)(ops:List Po)(seq st:List Int)(OA QA HA:Option Addr)(oc qc hc:Nat)(hops:ops.length≤9223372036854775807)(hql:seq.length≤1000000)(hhl:st.length≤1000000):
    Ctr X 126 [.agg (List.toArray [.int .i64 sz,.int .i64 n,.bool lf,.int .i64 inn,.int .i64 out,.slice OA ops.length oc,.slice QA seq.length qc,.slice HA st.length hc])] [Rd OA (cv ops),Rd QA (I64 seq),Rd HA (I64 st)] [] (fun v R' H'=>v=.bool (fM lf sz n inn out ops seq st)∧R'=[]∧H'=[]):=by
 refine co Tryz.func126 ?_;intro β;apply Y 0x2a;intro A1;apply Y 0xf5edcfb428;refine an (wX lf inn out ops OA oc hops) ?_;rintro _ _ _ ⟨_,rfl,rfl,rfl⟩;apply Y 0x6c155;refine L.bool 23 rfl (imp tf ?_) (imp tg ?_)<;>intro hg23
 ·apply Y 0x12b52b;refine C.cond rfl (fun _=>?_) (fun h=>by cases h);apply Y 0x5c;exact ⟨congrArg Value.bool ((mb fun h=>hg23 h.1).symm),rfl,rfl⟩
 apply Y 0x542eb8e7;refine L.bool 28 rfl ?_ ?_<;>intro hg28
 ·apply Y 0x12b;refine C.cond rfl (fun _=>?_) (fun h=>by cases h);apply Y 0x5c;exact ⟨congrArg Value.bool ((mb fun h=>by rw [h.2.1] at hg28;cases hg28).symm),rfl,rfl⟩
 have hlf0:lf=false:=hg28;have hE0:cU inn out ops=0:=hg23;apply Y 0x789e7;refine an (G8 sz n lf inn out ops OA oc (.slice QA seq.length qc) (.slice HA st.length hc)) ?_;apply Zu 0xe916a29<;>intro hc32
 ·have hszb1:lZ sz n inn out=false:=by simpa using hc32
  apply Y 0x5c;exact ⟨congrArg Value.bool ((mb fun h=>by rw [h.2.2.1] at hszb1;cases hszb1).symm),rfl,rfl⟩
 have hszb0:lZ sz n inn out=true:=by simpa using hc32
 subst hlf0;apply Y 0x5ee;intro hszb;obtain ⟨S,rfl⟩:∃ q:Nat,sz=(q:Int):=⟨sz.toNat,by omega⟩;obtain ⟨n,rfl⟩:∃ q:Nat,n=(q:Int):=⟨n.toNat,by omega⟩;apply Y 0x7ee;intro hS1 hS2 hn1 hn2 hi1 hi2;apply Y 0x6ce;intro hcl;have hcp:=fF (ah ops) inn S n;apply Y 0x9b1f;intro hvv;rw [Int.toNat_natCast,Int.toNat_natCast] at hvv;have hvn:∀ {P:Prop},(fM false (S:Int) (n:Int) inn out ops seq st=true→P)→¬P→fM false (S:Int) (n:Int) inn out ops seq st=false:=fun f g=>by
  cases hb:fM false (S:Int) (n:Int) inn out ops seq st with
  |false=>rfl
  |true=>exact absurd (f hb) g
 apply Y 0x89e2e8;refine an (x6 S n false inn out ops OA oc (.slice QA seq.length qc) (.slice HA st.length hc) hops hS1 hS2 hn1 hn2 hE0) ?_;apply Y 0x89;intro CA cc;apply Y 0x6bfb4283c;refine a8 (C9 QA seq.length qc) ?_;apply Y 0x21e;intro PA;refine an (Dt PA QA seq qc hql) ?_;apply Y 0x89;intro TA tc;apply Y 0xa20f33c;refine an (EV TA (tH seq) tc CA (NI (aI (ah ops) inn S n)) cc seq.length (aI (ah ops) inn S n).length (zg seq) (bb _) (by rw [zg];omega) obW) ?_;apply Zu 0xe9129<;>intro hc41
 ·have hns:¬tH seq=NI (aI (ah ops) inn S n):=by simpa using hc41
  apply Y 0x5c;exact ⟨congrArg Value.bool ((hvn (fun h=>(hvv.1 h).2.2.2.1) (hns)).symm),rfl,rfl⟩
 have hys:tH seq=NI (aI (ah ops) inn S n):=by simpa using hc41
 have hnd:=zf hcp hys;obtain ⟨hsl2,hsm⟩:=(kr hcp).1 hys;apply Y 0x193800f99e2aa;refine lp [1,5,43,44] [_,_,_,_] (fun i:Nat=>[(45,.int .i64 (i:Int))]) (kz [_,_,_,_,_]) nz (fun i=>i≤st.length∧∀ k,k<i→stT (NI (aI (ah ops) inn S n)) st k=true) (fun i=>st.length-i) 0 ⟨Nat.zero_le _,bA⟩ (lk [3,2,4,5,6] []) ?_;apply Y 0xf0e;intro i hi hall;apply Zu 0x1cda<;>intro
 ·apply Y 0x752f4849;refine sp (Ev.load rfl rfl rfl (Src.r 4 rfl) (aJ oe)) ?_;apply Y 0x5813;refine an (x1 CA (aI (ah ops) inn S n) cc _ oe) ?_;apply Y 0x529;refine L.bool 54 rfl ?_ ?_<;>intro hg54
  ·have hx:stT (NI (aI (ah ops) inn S n)) st i=false:=zb (by simpa using hg54);apply Y 0x1a8a8a8;refine C.cond rfl (fun _=>?_) (fun h=>by cases h);apply Y 0x4babf9;exact ⟨congrArg Value.bool ((hvn (fun h=>(hvv.1 h).2.2.2.2.1) (fun g=>by rw [show stB _ st=false from lM (k:=i) oe hx] at g;cases g)).symm),rfl,rfl⟩
  apply Y 0x6a2c;refine L.bool 57 rfl (imp of_decide_eq_true ?_) (imp of_decide_eq_false ?_)<;>intro
  ·apply Y 0x7c0eb8cb;refine sp (ae (k:=(i-1)) rfl rfl rfl rfl rfl rfl oe oe (Src.r 4 rfl) ow) ?_;apply Y 0x7;refine sp (Ev.load rfl rfl rfl (Src.r 4 rfl) (aJ oe)) ?_;apply Zu 0x786a2c<;>intro hc67
   ·have hx:stT (NI (aI (ah ops) inn S n)) st i=false:=za oe hc67;apply Y 0x4babf9;exact ⟨congrArg Value.bool ((hvn (fun h=>(hvv.1 h).2.2.2.2.1) (fun g=>by rw [show stB _ st=false from lM (k:=i) oe hx] at g;cases g)).symm),rfl,rfl⟩
   have hx:stT (NI (aI (ah ops) inn S n)) st i=true:=nf (by simpa using hg54) hc67;exact Zm 0xd80f6dd9
  have hx:stT (NI (aI (ah ops) inn S n)) st i=true:=ng (by simpa using hg54) oe;apply Y 0x16aa8a8;refine C.cond rfl (fun h=>by cases h) (fun _=>?_);exact Zm 0xd80f6dd9
 apply Y 0x269;refine L.makeMap .i64 rfl (fun g=>?_);apply Y 0xa91f193d8228;intro hst;refine lp [1,5,8,71,72] [_,_,_,_,_] (fun i:Nat=>[(73,.int .i64 (i:Int))]) (kz [_,_,_,_,_]) (fun i=>[yr .i64 g (Em seq i)]) (fun i=>i≤seq.length) (fun i=>seq.length-i) 0 (Nat.zero_le _) (lk [0,1,2,3,4] [0]) ?_;intro i hi;apply Zu 0x1cda<;>intro
 ·apply Y 0x4849;refine sp (ae (k:=i) rfl rfl rfl rfl rfl rfl rfl oe (Src.r 3 rfl) ow) ?_;refine sp (Ev.load rfl rfl rfl (Src.r 3 rfl) (aJ oe)) ?_;apply Y 0xc86813;refine xh (j:=0) rfl rfl rfl rfl rfl rfl rfl rfl ?_;apply Y 0x6d50e;refine QE.round (i+1) oe oe (by exact lk [0,1,2,3,4] [0] (hh:=⟨(congrArg some (congrArg (yr .i64 g) (by rw [kQ];exact v8 (ua fun j hj=>cK hnd j i hj oe)))),trivial⟩))
 apply Y 0x4469;obtain rfl:i=seq.length:=oe;refine C.freezeAny 0 rfl [] ob ob ?_;apply Y 0x68;refine sp (ab (vs:=[_,_,_,_,_,_,_,_]) rfl rfl rfl (Src.r 1 rfl) rfl rfl ob) ?_;refine a8 (rG S n inn out ops OA oc (.slice QA seq.length qc) (.slice HA st.length hc) hops hS1 hS2 hn1 hn2 hE0 hi1 hi2) ?_;rintro _ _ _ ⟨MA,mhs,rfl,rfl,rfl,hmhs⟩;apply Y 0x193;refine lp [1,5,8,83,84] [_,_,_,_,_] (fun u:Nat=>[(85,.int .i64 (u:Int))]) (kz [_,_,_,_,_,_,_,_]) nz (fun u=>u≤n∧∀ k,k<u→okU (ah ops) inn S n seq st k=true) (fun u=>n-u) 0 ⟨Nat.zero_le _,bA⟩ (lk [0,1,2,3,4,5,6,7] []) ?_;apply Y 0xf0e;intro u hu hallu;apply Zu 0x1cda<;>intro
 ·apply Y 0x449;have hrl:((bV (ah ops) inn S n n).getD u []).length≤n:=by rw [eL oe,bb];exact jN _ _ _ _ _
  apply Y 0x8a;refine sp (ae (k:=u) rfl rfl rfl rfl rfl rfl rfl oe (Src.r 0 rfl) (by rw [bt oau,bW,bY];omega)) ?_;refine sp (Ev.load rfl rfl rfl (Src.r 0 rfl) (cG (by rw [bY];exact hmhs) (by rw [bY];omega))) ?_;apply Y 0x195813;refine lp [1,5,8,83,84,85,11,90,91] [_,_,_,_,_,_,_,_,_] (fun j:Nat=>[(92,.int .i64 (j:Int))]) (kz [_,_,_,_,_,_,_,_]) nz (fun j=>j≤((bV (ah ops) inn S n n).getD u []).length∧∀ k,k<j→∀ t:Nat,((bV (ah ops) inn S n n).getD u []).getD k 0=(t:Int)→okT seq st u t=true) (fun j=>((bV (ah ops) inn S n n).getD u []).length-j) 0 ⟨Nat.zero_le _,fun _ h=>absurd h (Nat.not_lt_zero _)⟩ (lk [0,1,2,3,4,5,6,7] []) ?_;apply Y 0xf0e;intro j hj hallj;apply Zu 0x1cda<;>intro
  ·apply Y 0x449;obtain ⟨t,htj,htn,htr,htm⟩:=zH (l:=(ah ops)) (inn:=inn) (S:=S) (n:=n) (u:=u) (j:=j) oe oe;apply Y 0x68;refine sp (ae (k:=j) rfl rfl rfl rfl rfl rfl rfl oe (Src.cast (Src.kid 1 rfl oau u (by rw [bW,bY];omega)) (dT _)) ow) ?_;refine sp (Ev.cast (u:=.int .i64 (t:Int)) (Ev.load rfl rfl rfl (Src.cast (Src.kid 1 rfl oau u (by rw [bW,bY];omega)) (dT _)) (aJ oe)) (congrArg (Value.int .i64) htj)) ?_;apply Y 0x28;have hmu:gA (Em seq seq.length) (u:Int)=some (.int .i64 (fe seq u)):=vU hnd (hsm u (cL.2 ⟨by omega,(nE htr).1⟩));have hmt:gA (Em seq seq.length) (t:Int)=some (.int .i64 (fe seq t)):=vU hnd (hsm t htm);apply Y 0x3800f99e68;refine an (mL HA st hc (t:Int) oe) ?_;apply Y 0x529;refine L.bool 101 rfl ?_ ?_<;>intro hg101
   ·apply Y 0xb86a;refine sp (mW rfl rfl rfl rfl rfl rfl rfl (gn.r 2 rfl) hmu) ?_;apply Y 0xb86a;refine sp (mW rfl rfl rfl rfl rfl rfl rfl (gn.r 2 rfl) hmt) ?_;apply Zu 0x786a<;>intro hc109
    ·have hx:okT seq st u t=false:=Gf (by simpa using hg101) hc109;apply Y 0x4bab58eabf9;exact ⟨congrArg Value.bool ((hvn (fun h=>(hvv.1 h).2.2.2.2.2) (fun g=>by rw [show plB (ah ops) inn S n seq st=false from lM (k:=u) oe (Ge htr htn hx)] at g;cases g)).symm),rfl,rfl⟩
    have hx:okT seq st u t=true:=nP hc109;apply Y 0x6dd9;refine QE.round (j+1) Qq oe (lk [0,1,2,3,4,5,6,7] [])
   have hx:okT seq st u t=true:=nQ (by simpa using hg101);apply Y 0x12ba8;refine C.cond rfl (fun h=>by cases h) (fun _=>?_);apply Y 0x6dd9;refine QE.round (j+1) Qq oe (lk [0,1,2,3,4,5,6,7] [])
  apply Y 0x6d64e;obtain rfl:j=((bV (ah ops) inn S n n).getD u []).length:=oe;apply Y 0xf81f;intro hux;refine QE.round (u+1) obf oe (lk [0,1,2,3,4,5,6,7] [])
 apply Y 0x39f969;exact ⟨congrArg Value.bool ((hvv.2 ⟨hE0,rfl,hszb0,hys,hst,fG fun k hk=>hallu k oe⟩).symm),rfl,rfl⟩
theorem Da (sz n:Int)(lf:Bool)(inn out:Int)(ops:List Po)(seq st:List Int)(OA QA HA:Option Addr)(oc qc hc:Nat)(hops:ops.length≤9223372036854775807)(hql:seq.length≤1000000)(hhl:st.length≤1000000):
    Ctr X 80 [.agg (List.toArray [.int .i64 sz,.int .i64 n,.bool lf,.int .i64 inn,.int .i64 out,.slice OA ops.length oc,.slice QA seq.length qc,.slice HA st.length hc])] [Rd OA (cv ops),Rd QA (I64 seq),Rd HA (I64 st)] [] (fun v R' H'=>v=.bool (fM lf sz n inn out ops seq st)∧R'=[]∧H'=[]):=by
 refine co Tryz.func80 ?_;intro β;apply Y 0x2a;intro A1;apply Y 0x529821ff5edcfb428;refine L.bool 15 rfl ?_ ?_<;>intro hg15
 ·apply Y 0x12b52b;refine C.cond rfl (fun _=>?_) (fun h=>by cases h);apply Y 0x5c;exact ⟨congrArg Value.bool ((mb fun h=>by rw [h.1] at hg15;cases hg15).symm),rfl,rfl⟩
 ·apply Y 0x542eb8e7;refine L.bool 20 rfl ?_ ?_<;>intro hg20
  ·apply Y 0x12b;refine C.cond rfl (fun _=>?_) (fun h=>by cases h);apply Y 0x5c;exact ⟨congrArg Value.bool ((mb fun h=>by rw [h.2.1] at hg20;cases hg20).symm),rfl,rfl⟩
  ·have hlf0:lf=false:=hg20;have hE0:cU inn out ops=0:=by simpa using hg15
   apply Y 0x789e7;refine an (zk sz n lf inn out ops OA oc (.slice QA seq.length qc) (.slice HA st.length hc)) ?_;apply Zu 0xe916a29<;>intro hc24
   ·have hszb1:lZ sz n inn out=false:=by simpa using hc24
    apply Y 0x5c;exact ⟨congrArg Value.bool ((mb fun h=>by rw [h.2.2.1] at hszb1;cases hszb1).symm),rfl,rfl⟩
   ·have hszb0:lZ sz n inn out=true:=by simpa using hc24
    subst hlf0;apply Y 0x5ee;intro hszb;obtain ⟨S,rfl⟩:∃ q:Nat,sz=(q:Int):=⟨sz.toNat,by omega⟩;obtain ⟨n,rfl⟩:∃ q:Nat,n=(q:Int):=⟨n.toNat,by omega⟩;apply Y 0x7ee;intro hS1 hS2 hn1 hn2 hi1 hi2;apply Y 0x6ce;intro hcl;have hcp:=fF (ah ops) inn S n;apply Y 0x9b1f;intro hvv;rw [Int.toNat_natCast,Int.toNat_natCast] at hvv;have hvn:∀ {P:Prop},(fM false (S:Int) (n:Int) inn out ops seq st=true→P)→¬P→fM false (S:Int) (n:Int) inn out ops seq st=false:=fun f g=>by
     cases hb:fM false (S:Int) (n:Int) inn out ops seq st with
     |false=>rfl
     |true=>exact absurd (f hb) g
    obtain ⟨r1,r2,r3,r4⟩:=Ac (n:=n) hE0 hS1 hS2 hn2 hi1 hi2;apply Y 0x8d0f;intro hpad;apply Y 0x7d0f;intro hml;apply Y 0x89e2e8;refine an (gF S n false inn out ops OA oc (.slice QA seq.length qc) (.slice HA st.length hc) hops hS1 hS2 hn1 hn2 hE0) ?_;apply Y 0x89;intro CA cc;apply Zu 0x5d1c86bfb4283c<;>intro
    ·apply Y 0x5c;exact ⟨congrArg Value.bool ((hvn (fun h=>((kr hcp).1 (hvv.1 h).2.2.2.1).1) oe).symm),rfl,rfl⟩
    ·apply Y 0x192aa;refine lp [1,3] [_,_] (fun i:Nat=>[(4,.int .i64 (i:Int))]) (kz [_,_,_,_,_]) nz (fun i=>i≤(aI (ah ops) inn S n).length∧∀ k,k<i→¬fe seq (((aI (ah ops) inn S n).getD k 0:Nat):Int)<0) (fun i=>(aI (ah ops) inn S n).length-i) 0 ⟨Nat.zero_le _,bA⟩ (lk [1,0,2,3,4] []) ?_;apply Y 0xf0e;intro i hi halli;apply Zu 0x786c4<;>intro
     ·apply Y 0xb930e60e3d449;refine sq (ae (k:=i) rfl rfl rfl rfl rfl rfl rfl oe (Src.r 1 rfl) Qi) ?_;refine sq (Ev.load rfl rfl rfl (Src.r 1 rfl) (FH oe)) ?_;refine LQ.call (.int .i64 (fe seq (((aI (ah ops) inn S n).getD i 0:Nat):Int))) (fy QA seq qc (((aI (ah ops) inn S n).getD i 0:Nat):Int) oe) (fun _ _ _ h=>h.1) rfl hcx rfl ?_;apply Zu 0x1c9aa9<;>intro hc46
      ·apply Y 0x4babf9;exact ⟨congrArg Value.bool ((hvn (fun h=>((kr hcp).1 (hvv.1 h).2.2.2.1).2 ((aI (ah ops) inn S n).getD i 0) (nY oe)) (ia.1 hc46)).symm),rfl,rfl⟩
      apply Y 0x3ad9;refine QE.round (i+1) (by exact ⟨by omega,bK halli hc46⟩) oe (lk [0,1,2,3,4] [])
     ·apply Y 0x192469;have hys:tH seq=NI (aI (ah ops) inn S n):=(kr hcp).2 ⟨by omega,fun t ht=>Classical.byContradiction fun g=>by
       have hm:=Ko ht;refine halli (MB (aI (ah ops) inn S n) t) oe ?_;rw [hm.2]
       exact ia.2 g⟩
      refine lp [1,3] [_,_] (fun i:Nat=>[(5,.int .i64 (i:Int))]) (kz [_,_,_,_,_]) nz (fun i=>i≤st.length∧∀ k,k<i→stT (NI (aI (ah ops) inn S n)) st k=true) (fun i=>st.length-i) 0 ⟨Nat.zero_le _,bA⟩ (lk [0,1,2,3,4] []) ?_;apply Y 0xf0e;intro i hi hall;apply Zu 0x783d8484<;>intro
      ·apply Y 0xa8e782fa930e60ea93d449;refine LQ.call (.int .i64 (fe (NI (aI (ah ops) inn S n)) (st.getD i 0))) (Ig CA (aI (ah ops) inn S n) cc (st.getD i 0) oe) (fun _ _ _ h=>h.1) rfl hcx rfl ?_;apply Y 0xb9;refine LQ.bool 62 rfl (imp of_decide_eq_true ?_) (imp of_decide_eq_false ?_)<;>intro hg62
       ·have hx:stT (NI (aI (ah ops) inn S n)) st i=false:=zb (Gs hg62);apply Y 0x9aa98b8b8b8b;refine C.cond rfl (fun _=>?_) (fun h=>by cases h);apply Y 0x4babf9;exact ⟨congrArg Value.bool ((hvn (fun h=>(hvv.1 h).2.2.2.2.1) (fun g=>by rw [show stB _ st=false from lM (k:=i) oe hx] at g;cases g)).symm),rfl,rfl⟩
       apply Y 0x1d1d1d;refine LQ.bool 65 rfl (imp of_decide_eq_true ?_) (imp of_decide_eq_false ?_)<;>intro
       ·apply Y 0x181d30e1860e18;refine sq (Ev.sub rfl rfl oe oe) ?_;apply Y 0x18;refine sq (ae (k:=(i-1)) rfl rfl rfl rfl rfl rfl oe oe (Src.r 4 rfl) ow) ?_;apply Zu 0x1c9ab9181da8e18782f181d30e1860e18a8e18<;>intro hc79
        ·have hx:stT (NI (aI (ah ops) inn S n)) st i=false:=za oe hc79;apply Y 0x4babf9;exact ⟨congrArg Value.bool ((hvn (fun h=>(hvv.1 h).2.2.2.2.1) (fun g=>by rw [show stB _ st=false from lM (k:=i) oe hx] at g;cases g)).symm),rfl,rfl⟩
        have hx:stT (NI (aI (ah ops) inn S n)) st i=true:=nf (uk hg62) hc79;exact Zm 0xd80f3ad9
       have hx:stT (NI (aI (ah ops) inn S n)) st i=true:=ng (uk hg62) oe;apply Y 0x9ab9188b8b8b;refine C.cond rfl (fun h=>by cases h) (fun _=>?_);exact Zm 0xd80f3ad9
      ·apply Y 0x822fd8f5edc269;rw [r1,r2];apply Y 0x9ee;intro MA mc mhs hmhs;apply Y 0xa91f1922855;intro hst;refine lp [1,3,6] [_,_,_] (fun u:Nat=>[(8,.int .i64 (u:Int))]) (kz [_,_,_,_,_,_,_]) nz (fun u=>u≤(rdN inn out S)∧∀ k,k<u→okU (ah ops) inn S n seq st k=true) (fun u=>(rdN inn out S)-u) 0 ⟨Nat.zero_le _,bA⟩ (lk [0,1,2,3,4,5,6] []) ?_;apply Y 0xf0e;intro u hu hallu;apply Zu 0x786c4<;>intro
       ·apply Y 0x19249;refine lp [1,3,6,8] [_,_,_,_] (fun j:Nat=>[(9,.int .i64 (j:Int))]) (kz [_,_,_,_,_,_,_]) nz (fun j=>j≤((bV (ah ops) inn S (rdN inn out S) (rdN inn out S)).getD u []).length∧∀ k,k<j→∀ t:Nat,((bV (ah ops) inn S (rdN inn out S) (rdN inn out S)).getD u []).getD k 0=(t:Int)→okT seq st u t=true) (fun j=>((bV (ah ops) inn S (rdN inn out S) (rdN inn out S)).getD u []).length-j) 0 ⟨Nat.zero_le _,fun _ h=>absurd h (Nat.not_lt_zero _)⟩ (lk [0,1,2,3,4,5,6] []) ?_;apply Y 0xf0e;intro j hj hallj;apply Y 0x44;have hmr:((bV (ah ops) inn S (rdN inn out S) (rdN inn out S)).getD u [])=(bV (ah ops) inn S n n).getD u []:=by rw [← hpad,nL]
        have hrl:((bV (ah ops) inn S (rdN inn out S) (rdN inn out S)).getD u []).length≤n:=by rw [hmr,eL oe,bb];exact jN _ _ _ _ _
        apply Zu 0x783862fb52fc868<;>intro
        ·apply Y 0x449;obtain ⟨t,htj,htn,htr,htm⟩:=zH (l:=(ah ops)) (inn:=inn) (S:=S) (n:=n) (u:=u) (j:=j) oe (by rw [← hmr];omega);rw [← hmr] at htj;apply Y 0x3862fb52f3b;refine sp (ae (k:=j) rfl rfl rfl rfl rfl rfl rfl oe (Src.cast (Src.kid 1 rfl QH u qM) (dT _)) ow) ?_;refine sp (Ev.cast (u:=.int .i64 (t:Int)) (Ev.load rfl rfl rfl (Src.cast (Src.kid 1 rfl QH u qM) (dT _)) (aJ oe)) (congrArg (Value.int .i64) htj)) ?_;apply Y 0x3d28;refine sq (faR 2) ?_;refine sq (ldR 2) ?_;apply Y 0xa9;refine LQ.call (.int .i64 (fe st (t:Int))) (fy HA st hc (t:Int) oe) (fun _ _ _ h=>h.1) rfl hcx rfl ?_;apply Y 0xb9;refine LQ.bool 115 rfl (imp of_decide_eq_true ?_) (imp of_decide_eq_false ?_)<;>intro hg115
         ·apply Y 0x18;refine sq (faR 2) ?_;apply Y 0x18;refine sq (ldR 2) ?_;apply Y 0x181d;refine LQ.call (.int .i64 (fe seq (u:Int))) (fy QA seq qc (u:Int) oe) (fun _ _ _ h=>h.1) rfl hcx rfl ?_;apply Y 0x18;refine sq (faR 2) ?_;apply Y 0x18;refine sq (ldR 2) ?_;apply Y 0x181d;refine LQ.call (.int .i64 (fe seq (t:Int))) (fy QA seq qc (t:Int) oe) (fun _ _ _ h=>h.1) rfl hcx rfl ?_;apply Zu 0x1c9ab918<;>intro hc125
          ·have hx:okT seq st u t=false:=Gf (Gs hg115) hc125;apply Y 0x4bab58eabf9;exact ⟨congrArg Value.bool ((hvn (fun h=>(hvv.1 h).2.2.2.2.2) (fun g=>by rw [show plB (ah ops) inn S n seq st=false from lM (k:=u) oe (Ge htr htn hx)] at g;cases g)).symm),rfl,rfl⟩
          have hx:okT seq st u t=true:=nP hc125;apply Y 0x3ad9;refine QE.round (j+1) Qq oe (lk [0,1,2,3,4,5,6] [])
         have hx:okT seq st u t=true:=nQ (uk hg115);apply Y 0x9aa9f3e8b8b;refine C.cond rfl (fun h=>by cases h) (fun _=>?_);apply Y 0x3ad9;refine QE.round (j+1) Qq oe (lk [0,1,2,3,4,5,6] [])
        apply Y 0x3a64e;obtain rfl:j=((bV (ah ops) inn S (rdN inn out S) (rdN inn out S)).getD u []).length:=oe;rw [hmr] at hallj;apply Y 0xf81f;intro hux;refine QE.round (u+1) obf oe (lk [0,1,2,3,4,5,6] [])
       ·apply Y 0x39f969;exact ⟨congrArg Value.bool ((hvv.2 ⟨hE0,rfl,hszb0,hys,hst,fG fun k hk=>by
         rcases Nat.lt_or_ge k (rdN inn out S) with g|g
         ·exact hallu k oe
         ·exact J1 (pf hS1 r4 g)⟩).symm),rfl,rfl⟩
def pw:Value:=.iface 331 (.agg #[])
theorem JO:(X.P.info? 331).map (fun i=>i.comparable)=some true:=oa
theorem Ed:X.P.stoodInHeld 331=false:=oa
theorem vz (β:Base)(v:Value)(hv:v=pw∨v=.nilIface)(Q:Exit→Act→World→Prop)(h:∀ Γ,QE β 11 [] Q .normal Γ [] []):
    C X β 11 [] Q (.seq (match Tryz.f259.body with|some (.seq _ (.seq a _))=>a|_=>.skip) (match Tryz.f259.body with|some (.seq _ (.seq _ b))=>b|_=>.skip)) [(0,v),(1,v)] [] []:=by
 obtain ⟨info,hi,hc⟩:=Option.map_eq_some_iff.1 JO
 rcases hv with rfl|rfl
 ·apply Y 0x48;refine sp (pH rfl rfl rfl) ?_;apply Y 0xb8cab83;refine sp (CS rfl rfl (X.ok 331 Jp rfl).und hi hc Ed rfl rfl) ?_;apply Y 0x1;refine C.cond rfl (fun h=>by cases h) (fun _=>?_);apply Y 0xd9
  exact h _
 apply Y 0x48;refine sp (lX rfl rfl rfl) ?_;apply Y 0x1a83;refine C.cond rfl (fun h=>by cases h) (fun _=>?_);apply Y 0xd9
 exact h _
theorem fr2 (v:Value):Fr 11 [] { tmps:=((Array.replicate 11 undef).setIfInBounds 1 v).setIfInBounds 0 v,defers:=[] } [(0,v),(1,v)]:=by
 refine ⟨by simp,rfl,fun s u hu=>?_⟩
 match s,hu with
 |0,hu=>injection hu with hu;subst hu;simp
 |1,hu=>injection hu with hu;subst hu;simp
 |s+2,hu=>cases hu
theorem RI (w:World):Sat ⟨w,fun _=>False,fun _=>False⟩ w [] []:=⟨⟨rfl,rfl,rfl,Nat.le_refl _,fun _ _ _=>rfl⟩,by simp,by simp,by simp,by simp,by simp,by simp⟩
theorem rD:RecOk X.P 259 pw:=by
 refine ⟨fun w=>?_,fun w=>?_,fun w=>?_⟩
 ·have hf:X.P.funcs[259]?=some Tryz.f259:=Tryz.func259;have hb:Tryz.f259.body.isNone=false:=rfl;have hname:(Tryz.f259.name== "runtime.NumGoroutine")=false:=rfl
  simp only [beq_eq_false_iff_ne] at hname;apply Y 0xc51f;intro h;rw [h] at hb
  cases hb
 ·refine callsD_of_wpS (P:=X.P) Tryz.func259 rfl fun c₀ cs hu=>?_
  apply wpS_seq
  apply wpS_region;apply Y 0xb00f;refine wpS_of_wp (vz ⟨w,fun _=>False,fun _=>False⟩ .nilIface (.inr rfl) _ (fun Γ a' w' hf' hs'=>?_) _ w (fr2 _) (RI w));apply Y 0xe40f;intro hst;apply Y 0x3ee;intro hd
  cases c₀
  simp only at hu;subst hu;exact Zm 0xc00f
 refine callsD_of_wpS (P:=X.P) Tryz.func259 rfl fun c₀ cs hu=>?_
 apply wpS_seq
 apply wpS_region;apply Y 0xb00f;refine wpS_of_wp (vz ⟨w,fun _=>False,fun _=>False⟩ pw (.inl rfl) _ (fun Γ a' w' hf' hs'=>?_) _ w (fr2 _) (RI w));apply Y 0xe40f;intro hst;apply Y 0x3ee;intro hd
 cases c₀
 simp only at hu;subst hu;exact Zm 0xc00f
theorem FW (T:TypeId)(sz:Nat)(A:Option Addr)(tl:List Value)(S:Option Addr)(l:List UInt8)(c:Nat)(k:Nat)(hc:l.length≤c)(_hk:(k:Int)≤9223372036854775807):
    dU X 258 [ag A 0,.int .i64 (k:Int)] [] [Own T sz A 1 1 (.slice S l.length c::tl)] (b5 [{ v:=pw,recovered:=false }] (fun v R' H'=>v=.slice S k c∧k≤l.length∧R'=[]∧H'=[Own T sz A 1 1 (.slice (bF S c k 1) (l.drop k).length (c-k)::tl)]) (fun R' H'=>l.length<k∧R'=[]∧H'=[])):=by
 refine dU.of (X:=X) (fn:=Tryz.f258) Tryz.func258 rfl oa rfl ?_;intro β;apply Zu 0x78394e994c58da<;>intro
 ·apply Y 0xc9e2fe3ca68;exact ⟨by omega,rfl,rfl⟩
 apply Y 0x394e994c48e8;refine sp (br (h:=k) rfl rfl rfl rfl rfl rfl oe) ?_;apply Y 0x221f7cf8ece994c500f394e994c581;refine ⟨rfl,by omega,rfl,?_⟩;rw [List.length_drop]
 rfl
theorem eP (T:TypeId)(sz:Nat)(A:Option Addr)(tl:List Value)(S:Option Addr)(l:List UInt8)(c:Nat)(hc:l.length≤c):
    dU X 231 [ag A 0] [Rd S (U8 l)] [Own T sz A 1 1 (.slice S l.length c::tl)] (b5 [{ v:=pw,recovered:=false }] (fun v R' H'=>v=.int .i64 (be2 l:Int)∧2≤l.length∧R'=[]∧H'=[Own T sz A 1 1 (.slice (bF S c 2 1) (l.drop 2).length (c-2)::tl)]) (fun R' H'=>l.length<2∧R'=[]∧H'=[])):=by
 refine dU.of (X:=X) (fn:=Tryz.f231) Tryz.func231 rfl oa rfl ?_;intro β;apply Y 0x4812;refine bf (js:=[0]) (js':=[]) (FW T sz A tl S l c 2 hc ob) rfl rfl rfl ob trivial rfl ?_ ?_
 rotate_left;apply Y 0x98;intro h2;apply Y 0xc9e;exact ⟨h2,rfl,rfl⟩;apply Y 0x1a;intro h2;have hb0:=tD (l.getD 0 0);apply Y 0xa93d28;refine sq (ae (k:=0) rfl rfl rfl rfl rfl rfl rfl ob (Src.r 0 rfl) oO) ?_;apply Y 0x841f900f;refine sq (I4 rfl rfl oe oe) ?_;apply Y 0xa9;refine sq (ae (k:=1) rfl rfl rfl rfl rfl rfl rfl ob (Src.r 0 rfl) oO) ?_;apply Y 0x841f900f;refine sq (Ev.cast (I5 rfl rfl) (congrArg (Value.int .i64) (IL l))) ?_;apply Y 0x221f23e9aa9;exact ⟨rfl,h2,rfl,rfl⟩
theorem Ap (T:TypeId)(A S:Option Addr)(l:List UInt8)(c:Nat)(last size:Int)(hc:l.length≤c):
    dU X 260 [ag A 0] [Rd S (U8 l)] [Own T 3 A 1 1 (.slice S l.length c::[.int .i64 last,.int .i64 size])] (b5 [{ v:=pw,recovered:=false }] (fun v R' H'=>aj l last size∧v=.tuple #[.int .i64 (be2 l:Int),.slice (bF (bF S c 2 1) (c-2) 2 1) (be2 (l.drop 2)) (c-2-2)]∧R'=[]∧H'=[Own T 3 A 1 1 (.slice (bF (bF (bF S c 2 1) (c-2) 2 1) (c-2-2) (be2 (l.drop 2)) 1) (((l.drop 2).drop 2).drop (be2 (l.drop 2))).length ((c-2-2)-be2 (l.drop 2))::[.int .i64 ((be2 l:Int)+(be2 (l.drop 2):Int)),.int .i64 size])]) (fun R' H'=>¬aj l last size∧R'=[]∧H'=[])):=by
 refine dU.of (X:=X) (fn:=Tryz.f260) Tryz.func260 rfl oa rfl ?_;intro β;apply Y 0x2848;refine C.join (fun q:Unit=>[(0,ag A 0),(4,.int .i64 (be2 l:Int)),(5,.int .i64 (be2 (l.drop 2):Int))]) (fun q:Unit=>[Rd S (U8 l)]) (fun q:Unit=>[Own T 3 A 1 1 (.slice (bF (bF S c 2 1) (c-2) 2 1) ((l.drop 2).drop 2).length (c-2-2)::[.int .i64 last,.int .i64 size])]) (fun q:Unit=>2≤l.length∧2≤(l.drop 2).length) ?_ ?_
 ·refine tv ?_;apply Zu 0x211f
  ·apply Zu 0x1de79
   ·apply Zu 0xd70f384c
    ·apply Y 0x3899;refine LA.alt [3,4] oa ob ⟨⟨_,rfl,?_⟩,⟨_,rfl,?_⟩,trivial⟩
     ·apply Zu 0x41e
      rotate_left;apply Y 0x98;intro h9;apply Y 0xea;exact ⟨fun hp=>by unfold aj at hp;omega,rfl,rfl⟩;apply Y 0x1a;intro h9;apply Zu 0x31e51ee0e9965e384c61e79f6e38
      rotate_left;apply Y 0x98;intro h9;rw [List.length_drop] at h9;apply Y 0xea;exact ⟨fun hp=>by unfold aj at hp;omega,rfl,rfl⟩;apply Y 0x1a;intro h13;exact Zm 0x91e11e7981e7971e38
     apply Zu 0xe70f79
     ·apply Zu 0x41e
      rotate_left;apply Y 0x98;intro h9;apply Y 0xea;exact ⟨fun hp=>by unfold aj at hp;omega,rfl,rfl⟩;apply Y 0x1a;intro h9;apply Zu 0x31e51ee0e9965e384c61e38
      rotate_left;apply Y 0x98;intro h9;rw [List.length_drop] at h9;apply Y 0xea;exact ⟨fun hp=>by unfold aj at hp;omega,rfl,rfl⟩;apply Y 0x1a;intro h13;exact Zm 0x91e11e7981e7971e38
     apply Zu 0xd8e384c
     ·apply Zu 0x41e
      rotate_left;apply Y 0x98;intro h9;apply Y 0xea;exact ⟨fun hp=>by unfold aj at hp;omega,rfl,rfl⟩;apply Y 0x1a;intro h9;apply Zu 0x31e51ee0e9965e38
      rotate_left;apply Y 0x98;intro h9;rw [List.length_drop] at h9;apply Y 0xea;exact ⟨fun hp=>by unfold aj at hp;omega,rfl,rfl⟩;apply Y 0x1a;intro h13;exact Zm 0x91e11e7981e7971e38
     apply Zu 0x41e93e3899
     rotate_left;apply Y 0x98;intro h9;apply Y 0xea;exact ⟨fun hp=>by unfold aj at hp;omega,rfl,rfl⟩;apply Y 0x1a;intro h9;apply Zu 0x31e51ee0e
     rotate_left;apply Y 0x98;intro h9;rw [List.length_drop] at h9;apply Y 0xea;exact ⟨fun hp=>by unfold aj at hp;omega,rfl,rfl⟩;apply Y 0x1a;intro h13;exact Zm 0x91e11e7981e7971e38
    apply Zu 0x511f79
    ·apply Zu 0xe70f3899
     ·apply Zu 0x41e
      rotate_left;apply Y 0x98;intro h9;apply Y 0xea;exact ⟨fun hp=>by unfold aj at hp;omega,rfl,rfl⟩;apply Y 0x1a;intro h9;apply Zu 0x31e51ee0e9965e384c61e38
      rotate_left;apply Y 0x98;intro h9;rw [List.length_drop] at h9;apply Y 0xea;exact ⟨fun hp=>by unfold aj at hp;omega,rfl,rfl⟩;apply Y 0x1a;intro h13;exact Zm 0x91e11e7981e7971e38
     apply Zu 0xd8e384c
     ·apply Zu 0x41e
      rotate_left;apply Y 0x98;intro h9;apply Y 0xea;exact ⟨fun hp=>by unfold aj at hp;omega,rfl,rfl⟩;apply Y 0x1a;intro h9;apply Zu 0x31e51ee0e9965e38
      rotate_left;apply Y 0x98;intro h9;rw [List.length_drop] at h9;apply Y 0xea;exact ⟨fun hp=>by unfold aj at hp;omega,rfl,rfl⟩;apply Y 0x1a;intro h13;exact Zm 0x91e11e7981e7971e38
     apply Zu 0x41e93e3899
     rotate_left;apply Y 0x98;intro h9;apply Y 0xea;exact ⟨fun hp=>by unfold aj at hp;omega,rfl,rfl⟩;apply Y 0x1a;intro h9;apply Zu 0x31e51ee0e
     rotate_left;apply Y 0x98;intro h9;rw [List.length_drop] at h9;apply Y 0xea;exact ⟨fun hp=>by unfold aj at hp;omega,rfl,rfl⟩;apply Y 0x1a;intro h13;exact Zm 0x91e11e7981e7971e38
    apply Zu 0x3fe384c
    ·apply Zu 0xd8e3899
     ·apply Zu 0x41e
      rotate_left;apply Y 0x98;intro h9;apply Y 0xea;exact ⟨fun hp=>by unfold aj at hp;omega,rfl,rfl⟩;apply Y 0x1a;intro h9;apply Zu 0x31e51ee0e9965e38
      rotate_left;apply Y 0x98;intro h9;rw [List.length_drop] at h9;apply Y 0xea;exact ⟨fun hp=>by unfold aj at hp;omega,rfl,rfl⟩;apply Y 0x1a;intro h13;exact Zm 0x91e11e7981e7971e38
     apply Zu 0x41e93e3899
     rotate_left;apply Y 0x98;intro h9;apply Y 0xea;exact ⟨fun hp=>by unfold aj at hp;omega,rfl,rfl⟩;apply Y 0x1a;intro h9;apply Zu 0x31e51ee0e
     rotate_left;apply Y 0x98;intro h9;rw [List.length_drop] at h9;apply Y 0xea;exact ⟨fun hp=>by unfold aj at hp;omega,rfl,rfl⟩;apply Y 0x1a;intro h13;exact Zm 0x91e11e7981e7971e38
    apply Zu 0x41e93e389955e3899
    rotate_left;apply Y 0x98;intro h9;apply Y 0xea;exact ⟨fun hp=>by unfold aj at hp;omega,rfl,rfl⟩;apply Y 0x1a;intro h9;apply Zu 0x31e51ee0e
    rotate_left;apply Y 0x98;intro h9;rw [List.length_drop] at h9;apply Y 0xea;exact ⟨fun hp=>by unfold aj at hp;omega,rfl,rfl⟩;apply Y 0x1a;intro h13;exact Zm 0x91e11e7981e7971e38
   apply Zu 0x76e79
   ·apply Zu 0x511f384c
    ·apply Zu 0xe70f3899
     ·apply Zu 0x41e
      rotate_left;apply Y 0x98;intro h9;apply Y 0xea;exact ⟨fun hp=>by unfold aj at hp;omega,rfl,rfl⟩;apply Y 0x1a;intro h9;apply Zu 0x31e51ee0e9965e384c61e38
      rotate_left;apply Y 0x98;intro h9;rw [List.length_drop] at h9;apply Y 0xea;exact ⟨fun hp=>by unfold aj at hp;omega,rfl,rfl⟩;apply Y 0x1a;intro h13;exact Zm 0x91e11e7981e7971e38
     apply Zu 0xd8e384c
     ·apply Zu 0x41e
      rotate_left;apply Y 0x98;intro h9;apply Y 0xea;exact ⟨fun hp=>by unfold aj at hp;omega,rfl,rfl⟩;apply Y 0x1a;intro h9;apply Zu 0x31e51ee0e9965e38
      rotate_left;apply Y 0x98;intro h9;rw [List.length_drop] at h9;apply Y 0xea;exact ⟨fun hp=>by unfold aj at hp;omega,rfl,rfl⟩;apply Y 0x1a;intro h13;exact Zm 0x91e11e7981e7971e38
     apply Zu 0x41e93e3899
     rotate_left;apply Y 0x98;intro h9;apply Y 0xea;exact ⟨fun hp=>by unfold aj at hp;omega,rfl,rfl⟩;apply Y 0x1a;intro h9;apply Zu 0x31e51ee0e
     rotate_left;apply Y 0x98;intro h9;rw [List.length_drop] at h9;apply Y 0xea;exact ⟨fun hp=>by unfold aj at hp;omega,rfl,rfl⟩;apply Y 0x1a;intro h13;exact Zm 0x91e11e7981e7971e38
    apply Zu 0x3fe384c
    ·apply Zu 0xd8e3899
     ·apply Zu 0x41e
      rotate_left;apply Y 0x98;intro h9;apply Y 0xea;exact ⟨fun hp=>by unfold aj at hp;omega,rfl,rfl⟩;apply Y 0x1a;intro h9;apply Zu 0x31e51ee0e9965e38
      rotate_left;apply Y 0x98;intro h9;rw [List.length_drop] at h9;apply Y 0xea;exact ⟨fun hp=>by unfold aj at hp;omega,rfl,rfl⟩;apply Y 0x1a;intro h13;exact Zm 0x91e11e7981e7971e38
     apply Zu 0x41e93e3899
     rotate_left;apply Y 0x98;intro h9;apply Y 0xea;exact ⟨fun hp=>by unfold aj at hp;omega,rfl,rfl⟩;apply Y 0x1a;intro h9;apply Zu 0x31e51ee0e
     rotate_left;apply Y 0x98;intro h9;rw [List.length_drop] at h9;apply Y 0xea;exact ⟨fun hp=>by unfold aj at hp;omega,rfl,rfl⟩;apply Y 0x1a;intro h13;exact Zm 0x91e11e7981e7971e38
    apply Zu 0x41e93e389955e3899
    rotate_left;apply Y 0x98;intro h9;apply Y 0xea;exact ⟨fun hp=>by unfold aj at hp;omega,rfl,rfl⟩;apply Y 0x1a;intro h9;apply Zu 0x31e51ee0e
    rotate_left;apply Y 0x98;intro h9;rw [List.length_drop] at h9;apply Y 0xea;exact ⟨fun hp=>by unfold aj at hp;omega,rfl,rfl⟩;apply Y 0x1a;intro h13;exact Zm 0x91e11e7981e7971e38
   apply Zu 0x411f384c
   ·apply Zu 0x3fe384c
    ·apply Zu 0xd8e3899
     ·apply Zu 0x41e
      rotate_left;apply Y 0x98;intro h9;apply Y 0xea;exact ⟨fun hp=>by unfold aj at hp;omega,rfl,rfl⟩;apply Y 0x1a;intro h9;apply Zu 0x31e51ee0e9965e38
      rotate_left;apply Y 0x98;intro h9;rw [List.length_drop] at h9;apply Y 0xea;exact ⟨fun hp=>by unfold aj at hp;omega,rfl,rfl⟩;apply Y 0x1a;intro h13;exact Zm 0x91e11e7981e7971e38
     apply Zu 0x41e93e3899
     rotate_left;apply Y 0x98;intro h9;apply Y 0xea;exact ⟨fun hp=>by unfold aj at hp;omega,rfl,rfl⟩;apply Y 0x1a;intro h9;apply Zu 0x31e51ee0e
     rotate_left;apply Y 0x98;intro h9;rw [List.length_drop] at h9;apply Y 0xea;exact ⟨fun hp=>by unfold aj at hp;omega,rfl,rfl⟩;apply Y 0x1a;intro h13;exact Zm 0x91e11e7981e7971e38
    apply Zu 0x41e93e389955e3899
    rotate_left;apply Y 0x98;intro h9;apply Y 0xea;exact ⟨fun hp=>by unfold aj at hp;omega,rfl,rfl⟩;apply Y 0x1a;intro h9;apply Zu 0x31e51ee0e
    rotate_left;apply Y 0x98;intro h9;rw [List.length_drop] at h9;apply Y 0xea;exact ⟨fun hp=>by unfold aj at hp;omega,rfl,rfl⟩;apply Y 0x1a;intro h13;exact Zm 0x91e11e7981e7971e38
   apply Zu 0x41e93e389955e384c74e3899
   rotate_left;apply Y 0x98;intro h9;apply Y 0xea;exact ⟨fun hp=>by unfold aj at hp;omega,rfl,rfl⟩;apply Y 0x1a;intro h9;apply Zu 0x31e51ee0e
   rotate_left;apply Y 0x98;intro h9;rw [List.length_drop] at h9;apply Y 0xea;exact ⟨fun hp=>by unfold aj at hp;omega,rfl,rfl⟩;apply Y 0x1a;intro h13;exact Zm 0x91e11e7981e7971e38
  apply Zu 0xb70f79
  ·apply Zu 0x76e79
   ·apply Zu 0x511f384c
    ·apply Zu 0xe70f3899
     ·apply Zu 0x41e
      rotate_left;apply Y 0x98;intro h9;apply Y 0xea;exact ⟨fun hp=>by unfold aj at hp;omega,rfl,rfl⟩;apply Y 0x1a;intro h9;apply Zu 0x31e51ee0e9965e384c61e38
      rotate_left;apply Y 0x98;intro h9;rw [List.length_drop] at h9;apply Y 0xea;exact ⟨fun hp=>by unfold aj at hp;omega,rfl,rfl⟩;apply Y 0x1a;intro h13;exact Zm 0x91e11e7981e7971e38
     apply Zu 0xd8e384c
     ·apply Zu 0x41e
      rotate_left;apply Y 0x98;intro h9;apply Y 0xea;exact ⟨fun hp=>by unfold aj at hp;omega,rfl,rfl⟩;apply Y 0x1a;intro h9;apply Zu 0x31e51ee0e9965e38
      rotate_left;apply Y 0x98;intro h9;rw [List.length_drop] at h9;apply Y 0xea;exact ⟨fun hp=>by unfold aj at hp;omega,rfl,rfl⟩;apply Y 0x1a;intro h13;exact Zm 0x91e11e7981e7971e38
     apply Zu 0x41e93e3899
     rotate_left;apply Y 0x98;intro h9;apply Y 0xea;exact ⟨fun hp=>by unfold aj at hp;omega,rfl,rfl⟩;apply Y 0x1a;intro h9;apply Zu 0x31e51ee0e
     rotate_left;apply Y 0x98;intro h9;rw [List.length_drop] at h9;apply Y 0xea;exact ⟨fun hp=>by unfold aj at hp;omega,rfl,rfl⟩;apply Y 0x1a;intro h13;exact Zm 0x91e11e7981e7971e38
    apply Zu 0x3fe384c
    ·apply Zu 0xd8e3899
     ·apply Zu 0x41e
      rotate_left;apply Y 0x98;intro h9;apply Y 0xea;exact ⟨fun hp=>by unfold aj at hp;omega,rfl,rfl⟩;apply Y 0x1a;intro h9;apply Zu 0x31e51ee0e9965e38
      rotate_left;apply Y 0x98;intro h9;rw [List.length_drop] at h9;apply Y 0xea;exact ⟨fun hp=>by unfold aj at hp;omega,rfl,rfl⟩;apply Y 0x1a;intro h13;exact Zm 0x91e11e7981e7971e38
     apply Zu 0x41e93e3899
     rotate_left;apply Y 0x98;intro h9;apply Y 0xea;exact ⟨fun hp=>by unfold aj at hp;omega,rfl,rfl⟩;apply Y 0x1a;intro h9;apply Zu 0x31e51ee0e
     rotate_left;apply Y 0x98;intro h9;rw [List.length_drop] at h9;apply Y 0xea;exact ⟨fun hp=>by unfold aj at hp;omega,rfl,rfl⟩;apply Y 0x1a;intro h13;exact Zm 0x91e11e7981e7971e38
    apply Zu 0x41e93e389955e3899
    rotate_left;apply Y 0x98;intro h9;apply Y 0xea;exact ⟨fun hp=>by unfold aj at hp;omega,rfl,rfl⟩;apply Y 0x1a;intro h9;apply Zu 0x31e51ee0e
    rotate_left;apply Y 0x98;intro h9;rw [List.length_drop] at h9;apply Y 0xea;exact ⟨fun hp=>by unfold aj at hp;omega,rfl,rfl⟩;apply Y 0x1a;intro h13;exact Zm 0x91e11e7981e7971e38
   apply Zu 0x411f384c
   ·apply Zu 0x3fe384c
    ·apply Zu 0xd8e3899
     ·apply Zu 0x41e
      rotate_left;apply Y 0x98;intro h9;apply Y 0xea;exact ⟨fun hp=>by unfold aj at hp;omega,rfl,rfl⟩;apply Y 0x1a;intro h9;apply Zu 0x31e51ee0e9965e38
      rotate_left;apply Y 0x98;intro h9;rw [List.length_drop] at h9;apply Y 0xea;exact ⟨fun hp=>by unfold aj at hp;omega,rfl,rfl⟩;apply Y 0x1a;intro h13;exact Zm 0x91e11e7981e7971e38
     apply Zu 0x41e93e3899
     rotate_left;apply Y 0x98;intro h9;apply Y 0xea;exact ⟨fun hp=>by unfold aj at hp;omega,rfl,rfl⟩;apply Y 0x1a;intro h9;apply Zu 0x31e51ee0e
     rotate_left;apply Y 0x98;intro h9;rw [List.length_drop] at h9;apply Y 0xea;exact ⟨fun hp=>by unfold aj at hp;omega,rfl,rfl⟩;apply Y 0x1a;intro h13;exact Zm 0x91e11e7981e7971e38
    apply Zu 0x41e93e389955e3899
    rotate_left;apply Y 0x98;intro h9;apply Y 0xea;exact ⟨fun hp=>by unfold aj at hp;omega,rfl,rfl⟩;apply Y 0x1a;intro h9;apply Zu 0x31e51ee0e
    rotate_left;apply Y 0x98;intro h9;rw [List.length_drop] at h9;apply Y 0xea;exact ⟨fun hp=>by unfold aj at hp;omega,rfl,rfl⟩;apply Y 0x1a;intro h13;exact Zm 0x91e11e7981e7971e38
   apply Zu 0x41e93e389955e384c74e3899
   rotate_left;apply Y 0x98;intro h9;apply Y 0xea;exact ⟨fun hp=>by unfold aj at hp;omega,rfl,rfl⟩;apply Y 0x1a;intro h9;apply Zu 0x31e51ee0e
   rotate_left;apply Y 0x98;intro h9;rw [List.length_drop] at h9;apply Y 0xea;exact ⟨fun hp=>by unfold aj at hp;omega,rfl,rfl⟩;apply Y 0x1a;intro h13;exact Zm 0x91e11e7981e7971e38
  apply Y 0x384c;refine LA.alt [0,6] oa ob ⟨⟨_,rfl,?_⟩,⟨_,rfl,?_⟩,trivial⟩
  ·apply Zu 0x411f79
   ·apply Zu 0x3fe384c
    ·apply Zu 0xd8e3899
     ·apply Zu 0x41e
      rotate_left;apply Y 0x98;intro h9;apply Y 0xea;exact ⟨fun hp=>by unfold aj at hp;omega,rfl,rfl⟩;apply Y 0x1a;intro h9;apply Zu 0x31e51ee0e9965e38
      rotate_left;apply Y 0x98;intro h9;rw [List.length_drop] at h9;apply Y 0xea;exact ⟨fun hp=>by unfold aj at hp;omega,rfl,rfl⟩;apply Y 0x1a;intro h13;exact Zm 0x91e11e7981e7971e38
     apply Zu 0x41e93e3899
     rotate_left;apply Y 0x98;intro h9;apply Y 0xea;exact ⟨fun hp=>by unfold aj at hp;omega,rfl,rfl⟩;apply Y 0x1a;intro h9;apply Zu 0x31e51ee0e
     rotate_left;apply Y 0x98;intro h9;rw [List.length_drop] at h9;apply Y 0xea;exact ⟨fun hp=>by unfold aj at hp;omega,rfl,rfl⟩;apply Y 0x1a;intro h13;exact Zm 0x91e11e7981e7971e38
    apply Zu 0x41e93e389955e3899
    rotate_left;apply Y 0x98;intro h9;apply Y 0xea;exact ⟨fun hp=>by unfold aj at hp;omega,rfl,rfl⟩;apply Y 0x1a;intro h9;apply Zu 0x31e51ee0e
    rotate_left;apply Y 0x98;intro h9;rw [List.length_drop] at h9;apply Y 0xea;exact ⟨fun hp=>by unfold aj at hp;omega,rfl,rfl⟩;apply Y 0x1a;intro h13;exact Zm 0x91e11e7981e7971e38
   apply Zu 0x41e93e389955e384c74e3899
   rotate_left;apply Y 0x98;intro h9;apply Y 0xea;exact ⟨fun hp=>by unfold aj at hp;omega,rfl,rfl⟩;apply Y 0x1a;intro h9;apply Zu 0x31e51ee0e
   rotate_left;apply Y 0x98;intro h9;rw [List.length_drop] at h9;apply Y 0xea;exact ⟨fun hp=>by unfold aj at hp;omega,rfl,rfl⟩;apply Y 0x1a;intro h13;exact Zm 0x91e11e7981e7971e38
  apply Zu 0x41e93e389955e384c74e79c70f3899
  rotate_left;apply Y 0x98;intro h9;apply Y 0xea;exact ⟨fun hp=>by unfold aj at hp;omega,rfl,rfl⟩;apply Y 0x1a;intro h9;apply Zu 0x31e51ee0e
  rotate_left;apply Y 0x98;intro h9;rw [List.length_drop] at h9;apply Y 0xea;exact ⟨fun hp=>by unfold aj at hp;omega,rfl,rfl⟩;apply Y 0x1a;intro h13;exact Zm 0x91e11e7981e7971e38
 rintro _ ⟨h9,h13⟩;have hf:=mO l;have hn:=mO (l.drop 2);rw [List.length_drop] at h13;apply Zu 0x6f1f594e994c5841b<;>intro
 ·apply Y 0x1a89dbc;refine C.cond rfl (fun _=>?_) (fun h=>by cases h);apply Y 0xc9e2fe3ca68;exact ⟨fun hp=>by unfold aj at hp;omega,rfl,rfl⟩
 apply Zu 0x570fc8b8<;>intro
 ·apply Y 0x1a8a8;refine C.cond rfl (fun _=>?_) (fun h=>by cases h);apply Y 0xc9e2fe3ca68;exact ⟨fun hp=>by unfold aj at hp;omega,rfl,rfl⟩
 apply Zu 0x786a94e79974cb89bb86a<;>intro
 ·apply Y 0xc9e2fe3ca68;exact ⟨fun hp=>by unfold aj at hp;omega,rfl,rfl⟩
 apply Y 0x3994c58f8ece994c9b6ce8;refine bf (js:=[0]) (js':=[]) (FW T 3 A [.int .i64 ((be2 l:Int)+(be2 (l.drop 2):Int)),.int .i64 size] (bF (bF S c 2 1) (c-2) 2 1) ((l.drop 2).drop 2) (c-2-2) (be2 (l.drop 2)) QI oe) rfl rfl rfl ob trivial rfl ?_ ?_
 rotate_left;apply Y 0x98;intro h47;rw [List.length_drop,List.length_drop] at h47;apply Y 0xc9e;exact ⟨fun hp=>by unfold aj at hp;omega,rfl,rfl⟩;apply Y 0x1a;intro h47;rw [List.length_drop,List.length_drop] at h47;apply Y 0xbb;refine fJ (js:=[]) (hs:=[0]) (vs:=[_,_]) rfl rt ob ?_;exact ⟨by unfold aj;omega,rfl,rfl,rfl⟩
end Go.Proofs.YtbpddeiogcgegaaGreat
