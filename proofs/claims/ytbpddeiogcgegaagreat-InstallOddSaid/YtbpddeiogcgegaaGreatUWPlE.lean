/-
  Part of a proof.
-/
import Derived.Test.YtbpddeiogcgegaaGreatUWPlC
set_option maxHeartbeats 0
set_option maxRecDepth 4000
set_option linter.all false
namespace Go.Proofs.YtbpddeiogcgegaaGreat
open Go.Sl
theorem wP (l:List Int):(pR l).length=l.length:=(iv l).length_eq
theorem vy (A:Option Addr)(l:List Nat)(c:Nat)(n:Int)(hl:l.length≤9223372036854775807):Ctr X 200 [.slice A l.length c,.int .i64 n] [Rd A (I64 (NI l))] [] (fun v R' H'=>v=.bool ((NI l).contains n)∧R'=[]∧H'=[]):=by
 have:=kP A (NI l) c n obz;rw [bm] at this
 exact this
theorem F0 (A:Option Addr)(l:List Nat)(c:Nat)(n:Int)(hl:l.length≤9223372036854775807):Ctr X 134 [.slice A l.length c,.int .i64 n] [Rd A (I64 (NI l))] [] (fun v R' H'=>v=.int .i64 (eB (NI l) n)∧R'=[]∧H'=[]):=by
 have:=dV A (NI l) c n obz;rw [bm] at this
 exact this
theorem Ec {l:List Int}{t:Int}(h:eB l t<0):l.contains t=false:=by
 have:=tS (l:=l) (t:=t);rw [decide_eq_true h] at this
 simpa using this.symm
theorem rK {l:List Int}{t:Int}(h:¬eB l t<0):l.contains t=true:=by
 have:=tS (l:=l) (t:=t);rw [decide_eq_false h] at this
 simpa using this.symm
theorem Bu {row:List Int}{p:Nat→Bool}{j t:Nat}(h:∀ k,k<j→∀ t:Nat,row.getD k 0=(t:Int)→p t=true)(ht:row.getD j 0=(t:Int))(hx:p t=true):∀ k,k<j+1→∀ t:Nat,row.getD k 0=(t:Int)→p t=true:=by
 intro k hk t' ht'
 rcases Nat.lt_or_ge k j with g|g
 ·exact h k g t' ht'
 obtain rfl:k=j:=oe;rw [ht] at ht';obtain rfl:t=t':=oe
 exact hx
theorem mO (sz n:Int)(lf:Bool)(inn out:Int)(ops:List Po)(seq st:List Int)(OA QA HA:Option Addr)(oc qc hc:Nat)(hops:ops.length≤9223372036854775807)(hql:seq.length≤1000000)(hhl:st.length≤1000000):
    Ctr X 126 [.agg (List.toArray [.int .i64 sz,.int .i64 n,.bool lf,.int .i64 inn,.int .i64 out,.slice OA ops.length oc,.slice QA seq.length qc,.slice HA st.length hc])] [Rd OA (ck ops),Rd QA (I64 seq),Rd HA (I64 st)] [] (fun v R' H'=>v=.bool (eD lf sz n inn out ops seq st)∧R'=[]∧H'=[]):=by
 refine co Tryz.func126 ?_;intro β;apply Y 0x6a;intro A1;apply Y 0xd13f98e21edb549;rintro _ _ _ ⟨_,rfl,rfl,rfl⟩;apply Y 0xb848d828;refine L.bool 23 rfl (imp mC ?_) (imp mD ?_)<;>intro hg23
 ·apply Y 0x1ca28ca;refine C.cond rfl (fun _=>?_) (fun h=>by cases h);apply Y 0x6c;exact ⟨congrArg Value.bool ((kj fun h=>hg23 h.1).symm),rfl,rfl⟩
 apply Y 0x2853e5be4;refine L.bool 28 rfl ?_ ?_<;>intro hg28
 ·apply Y 0x1ca;refine C.cond rfl (fun _=>?_) (fun h=>by cases h);apply Y 0x6c;exact ⟨congrArg Value.bool ((kj fun h=>by rw [h.2.1] at hg28;cases hg28).symm),rfl,rfl⟩
 have hlf0:lf=false:=hg28;have hE0:cF inn out ops=0:=hg23;apply Y 0x4f7e4;refine al (EW sz n lf inn out ops OA oc (.slice QA seq.length qc) (.slice HA st.length hc)) ?_;apply Zu 0x3a38488<;>intro hc32
 ·have hszb1:kb sz n inn out=false:=by simpa using hc32
  apply Y 0x6c;exact ⟨congrArg Value.bool ((kj fun h=>by rw [h.2.2.1] at hszb1;cases hszb1).symm),rfl,rfl⟩
 have hszb0:kb sz n inn out=true:=by simpa using hc32
 subst hlf0;apply Y 0xefe;intro hszb;obtain ⟨S,rfl⟩:∃ q:Nat,sz=(q:Int):=⟨sz.toNat,by omega⟩;obtain ⟨n,rfl⟩:∃ q:Nat,n=(q:Int):=⟨n.toNat,by omega⟩;apply Y 0xffe;intro hS1 hS2 hn1 hn2 hi1 hi2;apply Y 0x4ee;intro hcl;apply Y 0x552f;intro hcp;apply Y 0x582f;intro hvv;rw [Int.toNat_natCast,Int.toNat_natCast] at hvv;have hvn:∀ {P:Prop},(eD false (S:Int) (n:Int) inn out ops seq st=true→P)→¬P→eD false (S:Int) (n:Int) inn out ops seq st=false:=fun f g=>by
  cases hb:eD false (S:Int) (n:Int) inn out ops seq st with
  |false=>rfl
  |true=>exact absurd (f hb) g
 apply Y 0xf7e8d;refine al (vB S n false inn out ops OA oc (.slice QA seq.length qc) (.slice HA st.length hc) hops hS1 hS2 hn1 hn2 hE0) ?_;apply Y 0x19;intro CA cc;apply Y 0x3bdb5494a;refine aL (AE QA seq.length qc) ?_;apply Y 0x41e;intro PA;refine al (AZ PA QA seq qc hql) ?_;apply Y 0x19;intro TA tc;apply Y 0x520f74a;refine al (CK TA (pR seq) tc CA (NI (aH (ah ops) inn S n)) cc seq.length (aH (ah ops) inn S n).length (wP seq) (bm _) (by rw [wP];omega) obQ) ?_;apply Zu 0x3a188<;>intro hc41
 ·have hns:¬pR seq=NI (aH (ah ops) inn S n):=by simpa using hc41
  apply Y 0x6c;exact ⟨congrArg Value.bool ((hvn (fun h=>(hvv.1 h).2.2.2.1) (hns)).symm),rfl,rfl⟩
 have hys:pR seq=NI (aH (ah ops) inn S n):=by simpa using hc41
 have hnd:=wO hcp hys;obtain ⟨hsl2,hsm⟩:=(iV hcp).1 hys;apply Y 0xaa386ceb9e5859;refine lp [1,5,43,44] [_,_,_,_] (fun i:Nat=>[(45,.int .i64 (i:Int))]) (kz [_,_,_,_,_]) nz (fun i=>i≤st.length∧∀ k,k<i→stT (NI (aH (ah ops) inn S n)) st k=true) (fun i=>st.length-i) 0 ⟨Nat.zero_le _,bq⟩ (lk [3,2,4,5,6] []) ?_;apply Y 0xb1e;intro i hi hall;apply Zu 0x7930e<;>intro
 ·apply Y 0x1c38a83f473fb999;refine al (vy CA (aH (ah ops) inn S n) cc _ oe) ?_;apply Y 0x2888;refine L.bool 54 rfl ?_ ?_<;>intro hg54
  ·have hx:stT (NI (aH (ah ops) inn S n)) st i=false:=wK (by simpa using hg54);apply Y 0x1393939;refine C.cond rfl (fun _=>?_) (fun h=>by cases h);apply Y 0x4b3da0e;exact ⟨congrArg Value.bool ((hvn (fun h=>(hvv.1 h).2.2.2.2.1) (fun g=>by rw [show stB _ st=false from jY (k:=i) oe hx] at g;cases g)).symm),rfl,rfl⟩
  apply Y 0xbcbcbc;refine L.bool 57 rfl (imp of_decide_eq_true ?_) (imp of_decide_eq_false ?_)<;>intro
  ·apply Y 0x461ef9eb;refine sp (ae (k:=(i-1)) rfl rfl rfl rfl rfl rfl oe oe (Src.r 4 rfl) ov) ?_;apply Zu 0x2a7da83f4<;>intro hc67
   ·have hx:stT (NI (aH (ah ops) inn S n)) st i=false:=wJ oe hc67;apply Y 0x4b3da0e;exact ⟨congrArg Value.bool ((hvn (fun h=>(hvv.1 h).2.2.2.2.1) (fun g=>by rw [show stB _ st=false from jY (k:=i) oe hx] at g;cases g)).symm),rfl,rfl⟩
   have hx:stT (NI (aH (ah ops) inn S n)) st i=true:=lh (by simpa using hg54) hc67;exact Zm 0x5e0f20efb7a
  have hx:stT (NI (aH (ah ops) inn S n)) st i=true:=ll (by simpa using hg54) oe;apply Y 0x3843939;refine C.cond rfl (fun h=>by cases h) (fun _=>?_);exact Zm 0x5e0f20efb7a
 apply Y 0x48a9;refine L.makeMap .i64 rfl (fun g=>?_);apply Y 0x132faa38f8581;intro hst;refine lp [1,5,8,71,72] [_,_,_,_,_] (fun i:Nat=>[(73,.int .i64 (i:Int))]) (kz [_,_,_,_,_]) (fun i=>[vV .i64 g (Cd seq i)]) (fun i=>i≤seq.length) (fun i=>seq.length-i) 0 (Nat.zero_le _) (lk [0,1,2,3,4] [0]) ?_;intro i hi;apply Zu 0x7930e<;>intro
 ·apply Y 0xb999;refine sp (ae (k:=i) rfl rfl rfl rfl rfl rfl rfl oe (Src.r 3 rfl) ov) ?_;refine sp (Ev.load rfl rfl rfl (Src.r 3 rfl) (aG oe)) ?_;apply Y 0xb87838;refine uE (j:=0) rfl rfl rfl rfl rfl rfl rfl rfl ?_;apply Y 0x20efb60e;refine QE.round (i+1) oe oe (by exact lk [0,1,2,3,4] [0] (hh:=⟨(congrArg some (congrArg (vV .i64 g) (by rw [jw];exact tG (ry fun j hj=>eO hnd j i hj oe)))),trivial⟩))
 apply Y 0x55a9;obtain rfl:i=seq.length:=oe;refine C.freezeAny 0 rfl [] ob ob ?_;apply Y 0x593f78;refine aL (nr S n inn out ops OA oc (.slice QA seq.length qc) (.slice HA st.length hc) hops hS1 hS2 hn1 hn2 hE0 hi1 hi2) ?_;apply Y 0xb92f;intro MA mhs hmhs;apply Y 0xaa38;refine lp [1,5,8,83,84] [_,_,_,_,_] (fun u:Nat=>[(85,.int .i64 (u:Int))]) (kz [_,_,_,_,_,_,_,_]) nz (fun u=>u≤n∧∀ k,k<u→okU (ah ops) inn S n seq st k=true) (fun u=>n-u) 0 ⟨Nat.zero_le _,bq⟩ (lk [0,1,2,3,4,5,6,7] []) ?_;apply Y 0xb1e;intro u hu hallu;apply Zu 0x7930e<;>intro
 ·apply Y 0x599;have hrl:((bN (ah ops) inn S n n).getD u []).length≤n:=by rw [eh oe,bm];exact iA _ _ _ _ _
  apply Y 0xab;refine sp (ae (k:=u) rfl rfl rfl rfl rfl rfl rfl oe (Src.r 0 rfl) (by rw [bB oay,bS,bW];omega)) ?_;refine sp (Ev.load rfl rfl rfl (Src.r 0 rfl) (cv (by rw [bW];exact hmhs) (by rw [bW];omega))) ?_;apply Y 0xaad84838;refine lp [1,5,8,83,84,85,11,90,91] [_,_,_,_,_,_,_,_,_] (fun j:Nat=>[(92,.int .i64 (j:Int))]) (kz [_,_,_,_,_,_,_,_]) nz (fun j=>j≤((bN (ah ops) inn S n n).getD u []).length∧∀ k,k<j→∀ t:Nat,((bN (ah ops) inn S n n).getD u []).getD k 0=(t:Int)→okT seq st u t=true) (fun j=>((bN (ah ops) inn S n n).getD u []).length-j) 0 ⟨Nat.zero_le _,fun _ h=>absurd h (Nat.not_lt_zero _)⟩ (lk [0,1,2,3,4,5,6,7] []) ?_;apply Y 0xb1e;intro j hj hallj;apply Zu 0x7930e<;>intro
  ·apply Y 0x599;obtain ⟨t,htj,htn,htr,htm⟩:=xl (l:=(ah ops)) (inn:=inn) (S:=S) (n:=n) (u:=u) (j:=j) oe oe;apply Y 0x78;refine sp (ae (k:=j) rfl rfl rfl rfl rfl rfl rfl oe (Src.cast (Src.kid 1 rfl oay u (by rw [bS,bW];omega)) (dq _)) ov) ?_;refine sp (Ev.cast (u:=.int .i64 (t:Int)) (Ev.load rfl rfl rfl (Src.cast (Src.kid 1 rfl oay u (by rw [bS,bW];omega)) (dq _)) (aG oe)) (congrArg (Value.int .i64) htj)) ?_;apply Y 0x49;have hmu:fI (Cd seq seq.length) (u:Int)=some (.int .i64 (eB seq u)):=tx hnd (hsm u (dC.2 ⟨by omega,(lI htr).1⟩));have hmt:fI (Cd seq seq.length) (t:Int)=some (.int .i64 (eB seq t)):=tx hnd (hsm t htm);apply Y 0x76ceb9e78;refine al (kP HA st hc (t:Int) oe) ?_;apply Y 0x2888;refine L.bool 101 rfl ?_ ?_<;>intro hg101
   ·apply Y 0x7d;refine sp (kW rfl rfl rfl rfl rfl rfl rfl (fD.r 2 rfl) hmu) ?_;apply Y 0x7d;refine sp (kW rfl rfl rfl rfl rfl rfl rfl (fD.r 2 rfl) hmt) ?_;apply Zu 0x2a4<;>intro hc109
    ·have hx:okT seq st u t=false:=D2 (by simpa using hg101) hc109;apply Y 0x4b3d93eaaebaea0e;exact ⟨congrArg Value.bool ((hvn (fun h=>(hvv.1 h).2.2.2.2.2) (fun g=>by rw [show plB (ah ops) inn S n seq st=false from jY (k:=u) oe (D1 htr htn hx)] at g;cases g)).symm),rfl,rfl⟩
    have hx:okT seq st u t=true:=lS hc109;exact Zm 0x313f20efb7a
   have hx:okT seq st u t=true:=lT (by simpa using hg101);apply Y 0x1ca39;refine C.cond rfl (fun h=>by cases h) (fun _=>?_);exact Zm 0x313f20efb7a
  apply Y 0x20efbe5e;obtain rfl:j=((bN (ah ops) inn S n n).getD u []).length:=oe;apply Y 0x822f;intro hux;refine QE.round (u+1) oba oe (lk [0,1,2,3,4,5,6,7] [])
 apply Y 0xd91aa9;exact ⟨congrArg Value.bool ((hvv.2 ⟨hE0,rfl,hszb0,hys,hst,eZ fun k hk=>hallu k oe⟩).symm),rfl,rfl⟩
theorem sk (sz n:Int)(lf:Bool)(inn out:Int)(ops:List Po)(seq st:List Int)(OA QA HA:Option Addr)(oc qc hc:Nat)(hops:ops.length≤9223372036854775807)(hql:seq.length≤1000000)(hhl:st.length≤1000000):
    Ctr X 80 [.agg (List.toArray [.int .i64 sz,.int .i64 n,.bool lf,.int .i64 inn,.int .i64 out,.slice OA ops.length oc,.slice QA seq.length qc,.slice HA st.length hc])] [Rd OA (ck ops),Rd QA (I64 seq),Rd HA (I64 st)] [] (fun v R' H'=>v=.bool (eD lf sz n inn out ops seq st)∧R'=[]∧H'=[]):=by
 refine co Tryz.func80 ?_;intro β;apply Y 0x6a;intro A1;apply Zu 0x361f2888791f98e21edb549<;>intro hg15
 ·apply Y 0x1ca28ca;refine C.cond rfl (fun _=>?_) (fun h=>by cases h);apply Y 0x6c;exact ⟨congrArg Value.bool ((kj fun h=>by rw [h.1] at hg15;cases hg15).symm),rfl,rfl⟩
 ·apply Y 0x2853e5be4;refine L.bool 20 rfl ?_ ?_<;>intro hg20
  ·apply Y 0x1ca;refine C.cond rfl (fun _=>?_) (fun h=>by cases h);apply Y 0x6c;exact ⟨congrArg Value.bool ((kj fun h=>by rw [h.2.1] at hg20;cases hg20).symm),rfl,rfl⟩
  ·have hlf0:lf=false:=hg20;have hE0:cF inn out ops=0:=by simpa using hg15
   apply Y 0x4f7e4;refine al (wT sz n lf inn out ops OA oc (.slice QA seq.length qc) (.slice HA st.length hc)) ?_;apply Zu 0x3a38488<;>intro hc24
   ·have hszb1:kb sz n inn out=false:=by simpa using hc24
    apply Y 0x6c;exact ⟨congrArg Value.bool ((kj fun h=>by rw [h.2.2.1] at hszb1;cases hszb1).symm),rfl,rfl⟩
   ·have hszb0:kb sz n inn out=true:=by simpa using hc24
    subst hlf0;apply Y 0xefe;intro hszb;obtain ⟨S,rfl⟩:∃ q:Nat,sz=(q:Int):=⟨sz.toNat,by omega⟩;obtain ⟨n,rfl⟩:∃ q:Nat,n=(q:Int):=⟨n.toNat,by omega⟩;apply Y 0xffe;intro hS1 hS2 hn1 hn2 hi1 hi2;apply Y 0x4ee;intro hcl;apply Y 0x552f;intro hcp;apply Y 0x582f;intro hvv;rw [Int.toNat_natCast,Int.toNat_natCast] at hvv;have hvn:∀ {P:Prop},(eD false (S:Int) (n:Int) inn out ops seq st=true→P)→¬P→eD false (S:Int) (n:Int) inn out ops seq st=false:=fun f g=>by
     cases hb:eD false (S:Int) (n:Int) inn out ops seq st with
     |false=>rfl
     |true=>exact absurd (f hb) g
    obtain ⟨r1,r2,r3,r4⟩:=xG (n:=n) hE0 hS1 hS2 hn2 hi1 hi2;apply Y 0xe31f;intro hpad;apply Y 0xd31f;intro hml;apply Y 0xf7e8d;refine al (fN S n false inn out ops OA oc (.slice QA seq.length qc) (.slice HA st.length hc) hops hS1 hS2 hn1 hn2 hE0) ?_;apply Y 0x19;intro CA cc;apply Zu 0xdd38283bdb5494a<;>intro
    ·apply Y 0x6c;exact ⟨congrArg Value.bool ((hvn (fun h=>((iV hcp).1 (hvv.1 h).2.2.2.1).1) oe).symm),rfl,rfl⟩
    ·apply Y 0xcdbd;refine lp [1,3] [_,_] (fun i:Nat=>[(4,.int .i64 (i:Int))]) (kz [_,_,_,_,_]) nz (fun i=>i≤(aH (ah ops) inn S n).length∧∀ k,k<i→¬eB seq (((aH (ah ops) inn S n).getD k 0:Nat):Int)<0) (fun i=>(aH (ah ops) inn S n).length-i) 0 ⟨Nat.zero_le _,bq⟩ (lk [1,0,2,3,4] []) ?_;apply Y 0xb1e;intro i hi halli;apply Zu 0x2a9d<;>intro
     ·apply Y 0xc990e31ead599;refine sq (ae (k:=i) rfl rfl rfl rfl rfl rfl rfl oe (Src.r 1 rfl) Qq) ?_;refine sq (Ev.load rfl rfl rfl (Src.r 1 rfl) (Dm oe)) ?_;refine LQ.call (.int .i64 (eB seq (((aH (ah ops) inn S n).getD i 0:Nat):Int))) (dV QA seq qc (((aH (ah ops) inn S n).getD i 0:Nat):Int) oe) (fun _ _ _ h=>h.1) rfl hcx rfl ?_;apply Zu 0x7940e<;>intro hc46
      ·apply Y 0x4b3da0e;exact ⟨congrArg Value.bool ((hvn (fun h=>((iV hcp).1 (hvv.1 h).2.2.2.1).2 ((aH (ah ops) inn S n).getD i 0) (l6 oe)) (iH.1 hc46)).symm),rfl,rfl⟩
      apply Y 0x9a7a;refine QE.round (i+1) (by exact ⟨by omega,bx halli hc46⟩) oe (lk [0,1,2,3,4] [])
     ·apply Y 0xcd5a9;have hys:pR seq=NI (aH (ah ops) inn S n):=(iV hcp).2 ⟨by omega,fun t ht=>Classical.byContradiction fun g=>by
       have hm:=IS ht;refine halli (K9 (aH (ah ops) inn S n) t) oe ?_;rw [hm.2]
       exact iH.2 g⟩
      refine lp [1,3] [_,_] (fun i:Nat=>[(5,.int .i64 (i:Int))]) (kz [_,_,_,_,_]) nz (fun i=>i≤st.length∧∀ k,k<i→stT (NI (aH (ah ops) inn S n)) st k=true) (fun i=>st.length-i) 0 ⟨Nat.zero_le _,bq⟩ (lk [0,1,2,3,4] []) ?_;apply Y 0xb1e;intro i hi hall;apply Zu 0x2af8758<;>intro
      ·apply Y 0x4beaa3f6d90e31e6dad599;refine LQ.call (.int .i64 (eB (NI (aH (ah ops) inn S n)) (st.getD i 0))) (F0 CA (aH (ah ops) inn S n) cc (st.getD i 0) oe) (fun _ _ _ h=>h.1) rfl hcx rfl ?_;apply Y 0xc9;refine LQ.bool 62 rfl (imp of_decide_eq_true ?_) (imp of_decide_eq_false ?_)<;>intro hg62
       ·have hx:stT (NI (aH (ah ops) inn S n)) st i=false:=wK (Ec hg62);apply Y 0x40e9b9b9b9b;refine C.cond rfl (fun _=>?_) (fun h=>by cases h);apply Y 0x4b3da0e;exact ⟨congrArg Value.bool ((hvn (fun h=>(hvv.1 h).2.2.2.2.1) (fun g=>by rw [show stB _ st=false from jY (k:=i) oe hx] at g;cases g)).symm),rfl,rfl⟩
       apply Y 0xdcdcdc;refine LQ.bool 65 rfl (imp of_decide_eq_true ?_) (imp of_decide_eq_false ?_)<;>intro
       ·apply Y 0x65d1f6dc90e631e6;refine sq (ae (k:=(i-1)) rfl rfl rfl rfl rfl rfl oe oe (Src.r 4 rfl) ov) ?_;apply Zu 0x7932ec96dc4be6aa3f6dc90e631e64be6<;>intro hc79
        ·have hx:stT (NI (aH (ah ops) inn S n)) st i=false:=wJ oe hc79;apply Y 0x4b3da0e;exact ⟨congrArg Value.bool ((hvn (fun h=>(hvv.1 h).2.2.2.2.1) (fun g=>by rw [show stB _ st=false from jY (k:=i) oe hx] at g;cases g)).symm),rfl,rfl⟩
        have hx:stT (NI (aH (ah ops) inn S n)) st i=true:=lh (rK hg62) hc79;exact Zm 0x5e0f9a7a
       have hx:stT (NI (aH (ah ops) inn S n)) st i=true:=ll (rK hg62) oe;apply Y 0x32ec969b9b9b;refine C.cond rfl (fun h=>by cases h) (fun _=>?_);exact Zm 0x5e0f9a7a
      ·apply Y 0xf23ff898e21e48a9;rw [r1,r2];apply Y 0x6ee;intro MA mc mhs hmhs;apply Y 0x132fcd5d828;intro hst;refine lp [1,3,6] [_,_,_] (fun u:Nat=>[(8,.int .i64 (u:Int))]) (kz [_,_,_,_,_,_,_]) nz (fun u=>u≤(rdN inn out S)∧∀ k,k<u→okU (ah ops) inn S n seq st k=true) (fun u=>(rdN inn out S)-u) 0 ⟨Nat.zero_le _,bq⟩ (lk [0,1,2,3,4,5,6] []) ?_;apply Y 0xb1e;intro u hu hallu;apply Zu 0x2a9d<;>intro
       ·apply Y 0xcd99;refine lp [1,3,6,8] [_,_,_,_] (fun j:Nat=>[(9,.int .i64 (j:Int))]) (kz [_,_,_,_,_,_,_]) nz (fun j=>j≤((bN (ah ops) inn S (rdN inn out S) (rdN inn out S)).getD u []).length∧∀ k,k<j→∀ t:Nat,((bN (ah ops) inn S (rdN inn out S) (rdN inn out S)).getD u []).getD k 0=(t:Int)→okT seq st u t=true) (fun j=>((bN (ah ops) inn S (rdN inn out S) (rdN inn out S)).getD u []).length-j) 0 ⟨Nat.zero_le _,fun _ h=>absurd h (Nat.not_lt_zero _)⟩ (lk [0,1,2,3,4,5,6] []) ?_;apply Y 0xb1e;intro j hj hallj;apply Y 0x55;have hmr:((bN (ah ops) inn S (rdN inn out S) (rdN inn out S)).getD u [])=(bN (ah ops) inn S n n).getD u []:=by rw [← hpad,lO]
        have hrl:((bN (ah ops) inn S (rdN inn out S) (rdN inn out S)).getD u []).length≤n:=by rw [hmr,eh oe,bm];exact iA _ _ _ _ _
        apply Zu 0x2a683f773fb878<;>intro
        ·apply Y 0x599;obtain ⟨t,htj,htn,htr,htm⟩:=xl (l:=(ah ops)) (inn:=inn) (S:=S) (n:=n) (u:=u) (j:=j) oe (by rw [← hmr];omega);rw [← hmr] at htj;apply Y 0x7683f773fac;refine sp (ae (k:=j) rfl rfl rfl rfl rfl rfl rfl oe (Src.cast (Src.kid 1 rfl QR u qU) (dq _)) ov) ?_;refine sp (Ev.cast (u:=.int .i64 (t:Int)) (Ev.load rfl rfl rfl (Src.cast (Src.kid 1 rfl QR u qU) (dq _)) (aG oe)) (congrArg (Value.int .i64) htj)) ?_;apply Y 0x6dc01fb01fad49;refine LQ.call (.int .i64 (eB st (t:Int))) (dV HA st hc (t:Int) oe) (fun _ _ _ h=>h.1) rfl hcx rfl ?_;apply Y 0xc9;refine LQ.bool 115 rfl (imp of_decide_eq_true ?_) (imp of_decide_eq_false ?_)<;>intro hg115
         ·apply Y 0x6dcc01f6b01f6;refine LQ.call (.int .i64 (eB seq (u:Int))) (dV QA seq qc (u:Int) oe) (fun _ _ _ h=>h.1) rfl hcx rfl ?_;apply Y 0x6dcc01f6b01f6;refine LQ.call (.int .i64 (eB seq (t:Int))) (dV QA seq qc (t:Int) oe) (fun _ _ _ h=>h.1) rfl hcx rfl ?_;apply Zu 0x7932ec96<;>intro hc125
          ·have hx:okT seq st u t=false:=D2 (Ec hg115) hc125;apply Y 0x4b3d93eaaebaea0e;exact ⟨congrArg Value.bool ((hvn (fun h=>(hvv.1 h).2.2.2.2.2) (fun g=>by rw [show plB (ah ops) inn S n seq st=false from jY (k:=u) oe (D1 htr htn hx)] at g;cases g)).symm),rfl,rfl⟩
          have hx:okT seq st u t=true:=lS hc125;exact Zm 0x413f9a7a
         have hx:okT seq st u t=true:=lT (rK hg115);apply Y 0x40ec4e9b9b;refine C.cond rfl (fun h=>by cases h) (fun _=>?_);exact Zm 0x413f9a7a
        apply Y 0x9ae5e;obtain rfl:j=((bN (ah ops) inn S (rdN inn out S) (rdN inn out S)).getD u []).length:=oe;rw [hmr] at hallj;apply Y 0x822f;intro hux;refine QE.round (u+1) oba oe (lk [0,1,2,3,4,5,6] [])
       ·apply Y 0xd91aa9;exact ⟨congrArg Value.bool ((hvv.2 ⟨hE0,rfl,hszb0,hys,hst,eZ fun k hk=>by
         rcases Nat.lt_or_ge k (rdN inn out S) with g|g
         ·exact hallu k oe
         ·exact Il (mz hS1 r4 g)⟩).symm),rfl,rfl⟩
def pw:Value:=.iface 331 (.agg #[])
theorem H8:(X.P.info? 331).map (fun i=>i.comparable)=some true:=oa
theorem BX:X.P.stoodInHeld 331=false:=oa
theorem s4 (β:Base)(v:Value)(hv:v=pw∨v=.nilIface)(Q:Exit→Act→World→Prop)(h:∀ Γ,QE β 11 [] Q .normal Γ [] []):
    C X β 11 [] Q (.seq (match Tryz.f259.body with|some (.seq _ (.seq a _))=>a|_=>.skip) (match Tryz.f259.body with|some (.seq _ (.seq _ b))=>b|_=>.skip)) [(0,v),(1,v)] [] []:=by
 obtain ⟨info,hi,hc⟩:=Option.map_eq_some_iff.1 H8
 rcases hv with rfl|rfl
 ·apply Y 0xf9baf978c1fb9;refine sp (Af rfl rfl (X.ok 331 Hm rfl).und hi hc BX rfl rfl) ?_;apply Y 0x1;refine C.cond rfl (fun h=>by cases h) (fun _=>?_);apply Y 0x7a
  exact h _
 apply Y 0x13979c1fb9;refine C.cond rfl (fun h=>by cases h) (fun _=>?_);apply Y 0x7a
 exact h _
theorem fr2 (v:Value):Fr 11 [] { tmps:=((Array.replicate 11 undef).setIfInBounds 1 v).setIfInBounds 0 v,defers:=[] } [(0,v),(1,v)]:=by
 refine ⟨by simp,rfl,fun s u hu=>?_⟩
 match s,hu with
 |0,hu=>injection hu with hu;subst hu;simp
 |1,hu=>injection hu with hu;subst hu;simp
 |s+2,hu=>cases hu
theorem PE (w:World):Sat ⟨w,fun _=>False,fun _=>False⟩ w [] []:=⟨⟨rfl,rfl,rfl,Nat.le_refl _,fun _ _ _=>rfl⟩,by simp,by simp,by simp,by simp,by simp,by simp⟩
theorem nm:RecOk X.P 259 pw:=by
 refine ⟨fun w=>?_,fun w=>?_,fun w=>?_⟩
 ·have hf:X.P.funcs[259]?=some Tryz.f259:=Tryz.func259;have hb:Tryz.f259.body.isNone=false:=rfl;have hname:(Tryz.f259.name== "runtime.NumGoroutine")=false:=rfl
  simp only [beq_eq_false_iff_ne] at hname;apply Y 0x4e1f;intro h;rw [h] at hb
  cases hb
 ·refine callsD_of_wpS (P:=X.P) Tryz.func259 rfl fun c₀ cs hu=>?_
  apply wpS_seq
  apply wpS_region;apply Y 0xe30f;refine wpS_of_wp (s4 ⟨w,fun _=>False,fun _=>False⟩ .nilIface (.inr rfl) _ (fun Γ a' w' hf' hs'=>?_) _ w (fr2 _) (PE w));apply Y 0x390f;intro hst;apply Y 0xa10f;intro hd
  cases c₀
  simp only at hu;subst hu;exact Zm 0xf30f
 refine callsD_of_wpS (P:=X.P) Tryz.func259 rfl fun c₀ cs hu=>?_
 apply wpS_seq
 apply wpS_region;apply Y 0xe30f;refine wpS_of_wp (s4 ⟨w,fun _=>False,fun _=>False⟩ pw (.inl rfl) _ (fun Γ a' w' hf' hs'=>?_) _ w (fr2 _) (PE w));apply Y 0x390f;intro hst;apply Y 0xa10f;intro hd
 cases c₀
 simp only at hu;subst hu;exact Zm 0xf30f
theorem DI (T:TypeId)(sz:Nat)(A:Option Addr)(tl:List Value)(S:Option Addr)(l:List UInt8)(c:Nat)(k:Nat)(hc:l.length≤c)(_hk:(k:Int)≤9223372036854775807):
    dr X 258 [ag A 0,.int .i64 (k:Int)] [] [Own T sz A 1 1 (.slice S l.length c::tl)] (bX [{ v:=pw,recovered:=false }] (fun v R' H'=>v=.slice S k c∧k≤l.length∧R'=[]∧H'=[Own T sz A 1 1 (.slice (bh S c k 1) (l.drop k).length (c-k)::tl)]) (fun R' H'=>l.length<k∧R'=[]∧H'=[])):=by
 refine dr.of (X:=X) (fn:=Tryz.f258) Tryz.func258 rfl oa rfl ?_;intro β;apply Zu 0x2a94ee95d9d1a<;>intro
 ·apply Y 0xfce620f7ba78;exact ⟨by omega,rfl,rfl⟩
 apply Y 0xd81fe8c89849ee95db30f794ee95d1c1e93f794ee95db959;refine ⟨rfl,by omega,rfl,?_⟩;rw [List.length_drop];exact Zm 0x2
theorem eo (T:TypeId)(sz:Nat)(A:Option Addr)(tl:List Value)(S:Option Addr)(l:List UInt8)(c:Nat)(hc:l.length≤c):
    dr X 231 [ag A 0] [Rd S (U8 l)] [Own T sz A 1 1 (.slice S l.length c::tl)] (bX [{ v:=pw,recovered:=false }] (fun v R' H'=>v=.int .i64 (be2 l:Int)∧2≤l.length∧R'=[]∧H'=[Own T sz A 1 1 (.slice (bh S c 2 1) (l.drop 2).length (c-2)::tl)]) (fun R' H'=>l.length<2∧R'=[]∧H'=[])):=by
 refine dr.of (X:=X) (fn:=Tryz.f231) Tryz.func231 rfl oa rfl ?_;intro β;apply Y 0xb91a;refine ba (js:=[0]) (js':=[]) (DI T sz A tl S l c 2 hc ob) rfl rfl rfl ob trivial rfl ?_ ?_
 rotate_left;apply Y 0x29;intro h2;apply Y 0xfce;exact ⟨h2,rfl,rfl⟩;apply Y 0x1b;intro h2;apply Y 0x482f;intro hb0;apply Y 0x6dad49;refine sq (ae (k:=0) rfl rfl rfl rfl rfl rfl rfl ob (Src.r 0 rfl) oG) ?_;apply Y 0xf70f6ae;refine sq (GS rfl rfl oe oe) ?_;apply Y 0x6d;refine sq (ae (k:=1) rfl rfl rfl rfl rfl rfl rfl ob (Src.r 0 rfl) oG) ?_;apply Y 0xf70f6ae;refine sq (Ev.cast (GT rfl rfl) (congrArg (Value.int .i64) (Gz l))) ?_;apply Y 0xd81fe840e;exact ⟨rfl,h2,rfl,rfl⟩
theorem xY (T:TypeId)(A S:Option Addr)(l:List UInt8)(c:Nat)(last size:Int)(hc:l.length≤c):
    dr X 260 [ag A 0] [Rd S (U8 l)] [Own T 3 A 1 1 (.slice S l.length c::[.int .i64 last,.int .i64 size])] (bX [{ v:=pw,recovered:=false }] (fun v R' H'=>ai l last size∧v=.tuple #[.int .i64 (be2 l:Int),.slice (bh (bh S c 2 1) (c-2) 2 1) (be2 (l.drop 2)) (c-2-2)]∧R'=[]∧H'=[Own T 3 A 1 1 (.slice (bh (bh (bh S c 2 1) (c-2) 2 1) (c-2-2) (be2 (l.drop 2)) 1) (((l.drop 2).drop 2).drop (be2 (l.drop 2))).length ((c-2-2)-be2 (l.drop 2))::[.int .i64 ((be2 l:Int)+(be2 (l.drop 2):Int)),.int .i64 size])]) (fun R' H'=>¬ai l last size∧R'=[]∧H'=[])):=by
 refine dr.of (X:=X) (fn:=Tryz.f260) Tryz.func260 rfl oa rfl ?_;intro β;apply Y 0x5c8;refine C.join (fun q:Unit=>[(0,ag A 0),(4,.int .i64 (be2 l:Int)),(5,.int .i64 (be2 (l.drop 2):Int))]) (fun q:Unit=>[Rd S (U8 l)]) (fun q:Unit=>[Own T 3 A 1 1 (.slice (bh (bh S c 2 1) (c-2) 2 1) ((l.drop 2).drop 2).length (c-2-2)::[.int .i64 last,.int .i64 size])]) (fun q:Unit=>2≤l.length∧2≤(l.drop 2).length) ?_ ?_
 ·refine pG ?_;apply Zu 0x771f
  ·apply Zu 0x700f5a
   ·apply Zu 0x5d0f685d
    ·apply Y 0x68e9;refine LA.alt [3,4] oa ob ⟨⟨_,rfl,?_⟩,⟨_,rfl,?_⟩,trivial⟩
     ·apply Zu 0x52e
      rotate_left;apply Y 0x29;intro h9;apply Y 0xbb;exact ⟨fun hp=>by unfold ai at hp;omega,rfl,rfl⟩;apply Y 0x1b;intro h9;apply Zu 0x42e62ee1ee9e6e685d72e5a59e68
      rotate_left;apply Y 0x29;intro h9;rw [List.length_drop] at h9;apply Y 0xbb;exact ⟨fun hp=>by unfold ai at hp;omega,rfl,rfl⟩;apply Y 0x1b;intro h13;exact Zm 0xa2e12e5a92e5a82e68
     apply Zu 0x6d0f5a
     ·apply Zu 0x52e
      rotate_left;apply Y 0x29;intro h9;apply Y 0xbb;exact ⟨fun hp=>by unfold ai at hp;omega,rfl,rfl⟩;apply Y 0x1b;intro h9;apply Zu 0x42e62ee1ee9e6e685d72e68
      rotate_left;apply Y 0x29;intro h9;rw [List.length_drop] at h9;apply Y 0xbb;exact ⟨fun hp=>by unfold ai at hp;omega,rfl,rfl⟩;apply Y 0x1b;intro h13;exact Zm 0xa2e12e5a92e5a82e68
     apply Zu 0xabe685d
     ·apply Zu 0x52e
      rotate_left;apply Y 0x29;intro h9;apply Y 0xbb;exact ⟨fun hp=>by unfold ai at hp;omega,rfl,rfl⟩;apply Y 0x1b;intro h9;apply Zu 0x42e62ee1ee9e6e68
      rotate_left;apply Y 0x29;intro h9;rw [List.length_drop] at h9;apply Y 0xbb;exact ⟨fun hp=>by unfold ai at hp;omega,rfl,rfl⟩;apply Y 0x1b;intro h13;exact Zm 0xa2e12e5a92e5a82e68
     apply Zu 0x52eb4e68e9
     rotate_left;apply Y 0x29;intro h9;apply Y 0xbb;exact ⟨fun hp=>by unfold ai at hp;omega,rfl,rfl⟩;apply Y 0x1b;intro h9;apply Zu 0x42e62ee1e
     rotate_left;apply Y 0x29;intro h9;rw [List.length_drop] at h9;apply Y 0xbb;exact ⟨fun hp=>by unfold ai at hp;omega,rfl,rfl⟩;apply Y 0x1b;intro h13;exact Zm 0xa2e12e5a92e5a82e68
    apply Zu 0xa71f5a
    ·apply Zu 0x6d0f68e9
     ·apply Zu 0x52e
      rotate_left;apply Y 0x29;intro h9;apply Y 0xbb;exact ⟨fun hp=>by unfold ai at hp;omega,rfl,rfl⟩;apply Y 0x1b;intro h9;apply Zu 0x42e62ee1ee9e6e685d72e68
      rotate_left;apply Y 0x29;intro h9;rw [List.length_drop] at h9;apply Y 0xbb;exact ⟨fun hp=>by unfold ai at hp;omega,rfl,rfl⟩;apply Y 0x1b;intro h13;exact Zm 0xa2e12e5a92e5a82e68
     apply Zu 0xabe685d
     ·apply Zu 0x52e
      rotate_left;apply Y 0x29;intro h9;apply Y 0xbb;exact ⟨fun hp=>by unfold ai at hp;omega,rfl,rfl⟩;apply Y 0x1b;intro h9;apply Zu 0x42e62ee1ee9e6e68
      rotate_left;apply Y 0x29;intro h9;rw [List.length_drop] at h9;apply Y 0xbb;exact ⟨fun hp=>by unfold ai at hp;omega,rfl,rfl⟩;apply Y 0x1b;intro h13;exact Zm 0xa2e12e5a92e5a82e68
     apply Zu 0x52eb4e68e9
     rotate_left;apply Y 0x29;intro h9;apply Y 0xbb;exact ⟨fun hp=>by unfold ai at hp;omega,rfl,rfl⟩;apply Y 0x1b;intro h9;apply Zu 0x42e62ee1e
     rotate_left;apply Y 0x29;intro h9;rw [List.length_drop] at h9;apply Y 0xbb;exact ⟨fun hp=>by unfold ai at hp;omega,rfl,rfl⟩;apply Y 0x1b;intro h13;exact Zm 0xa2e12e5a92e5a82e68
    apply Zu 0x720f685d
    ·apply Zu 0xabe68e9
     ·apply Zu 0x52e
      rotate_left;apply Y 0x29;intro h9;apply Y 0xbb;exact ⟨fun hp=>by unfold ai at hp;omega,rfl,rfl⟩;apply Y 0x1b;intro h9;apply Zu 0x42e62ee1ee9e6e68
      rotate_left;apply Y 0x29;intro h9;rw [List.length_drop] at h9;apply Y 0xbb;exact ⟨fun hp=>by unfold ai at hp;omega,rfl,rfl⟩;apply Y 0x1b;intro h13;exact Zm 0xa2e12e5a92e5a82e68
     apply Zu 0x52eb4e68e9
     rotate_left;apply Y 0x29;intro h9;apply Y 0xbb;exact ⟨fun hp=>by unfold ai at hp;omega,rfl,rfl⟩;apply Y 0x1b;intro h9;apply Zu 0x42e62ee1e
     rotate_left;apply Y 0x29;intro h9;rw [List.length_drop] at h9;apply Y 0xbb;exact ⟨fun hp=>by unfold ai at hp;omega,rfl,rfl⟩;apply Y 0x1b;intro h13;exact Zm 0xa2e12e5a92e5a82e68
    apply Zu 0x52eb4e68e9d6e68e9
    rotate_left;apply Y 0x29;intro h9;apply Y 0xbb;exact ⟨fun hp=>by unfold ai at hp;omega,rfl,rfl⟩;apply Y 0x1b;intro h9;apply Zu 0x42e62ee1e
    rotate_left;apply Y 0x29;intro h9;rw [List.length_drop] at h9;apply Y 0xbb;exact ⟨fun hp=>by unfold ai at hp;omega,rfl,rfl⟩;apply Y 0x1b;intro h13;exact Zm 0xa2e12e5a92e5a82e68
   apply Zu 0x58e5a
   ·apply Zu 0xa71f685d
    ·apply Zu 0x6d0f68e9
     ·apply Zu 0x52e
      rotate_left;apply Y 0x29;intro h9;apply Y 0xbb;exact ⟨fun hp=>by unfold ai at hp;omega,rfl,rfl⟩;apply Y 0x1b;intro h9;apply Zu 0x42e62ee1ee9e6e685d72e68
      rotate_left;apply Y 0x29;intro h9;rw [List.length_drop] at h9;apply Y 0xbb;exact ⟨fun hp=>by unfold ai at hp;omega,rfl,rfl⟩;apply Y 0x1b;intro h13;exact Zm 0xa2e12e5a92e5a82e68
     apply Zu 0xabe685d
     ·apply Zu 0x52e
      rotate_left;apply Y 0x29;intro h9;apply Y 0xbb;exact ⟨fun hp=>by unfold ai at hp;omega,rfl,rfl⟩;apply Y 0x1b;intro h9;apply Zu 0x42e62ee1ee9e6e68
      rotate_left;apply Y 0x29;intro h9;rw [List.length_drop] at h9;apply Y 0xbb;exact ⟨fun hp=>by unfold ai at hp;omega,rfl,rfl⟩;apply Y 0x1b;intro h13;exact Zm 0xa2e12e5a92e5a82e68
     apply Zu 0x52eb4e68e9
     rotate_left;apply Y 0x29;intro h9;apply Y 0xbb;exact ⟨fun hp=>by unfold ai at hp;omega,rfl,rfl⟩;apply Y 0x1b;intro h9;apply Zu 0x42e62ee1e
     rotate_left;apply Y 0x29;intro h9;rw [List.length_drop] at h9;apply Y 0xbb;exact ⟨fun hp=>by unfold ai at hp;omega,rfl,rfl⟩;apply Y 0x1b;intro h13;exact Zm 0xa2e12e5a92e5a82e68
    apply Zu 0x720f685d
    ·apply Zu 0xabe68e9
     ·apply Zu 0x52e
      rotate_left;apply Y 0x29;intro h9;apply Y 0xbb;exact ⟨fun hp=>by unfold ai at hp;omega,rfl,rfl⟩;apply Y 0x1b;intro h9;apply Zu 0x42e62ee1ee9e6e68
      rotate_left;apply Y 0x29;intro h9;rw [List.length_drop] at h9;apply Y 0xbb;exact ⟨fun hp=>by unfold ai at hp;omega,rfl,rfl⟩;apply Y 0x1b;intro h13;exact Zm 0xa2e12e5a92e5a82e68
     apply Zu 0x52eb4e68e9
     rotate_left;apply Y 0x29;intro h9;apply Y 0xbb;exact ⟨fun hp=>by unfold ai at hp;omega,rfl,rfl⟩;apply Y 0x1b;intro h9;apply Zu 0x42e62ee1e
     rotate_left;apply Y 0x29;intro h9;rw [List.length_drop] at h9;apply Y 0xbb;exact ⟨fun hp=>by unfold ai at hp;omega,rfl,rfl⟩;apply Y 0x1b;intro h13;exact Zm 0xa2e12e5a92e5a82e68
    apply Zu 0x52eb4e68e9d6e68e9
    rotate_left;apply Y 0x29;intro h9;apply Y 0xbb;exact ⟨fun hp=>by unfold ai at hp;omega,rfl,rfl⟩;apply Y 0x1b;intro h9;apply Zu 0x42e62ee1e
    rotate_left;apply Y 0x29;intro h9;rw [List.length_drop] at h9;apply Y 0xbb;exact ⟨fun hp=>by unfold ai at hp;omega,rfl,rfl⟩;apply Y 0x1b;intro h13;exact Zm 0xa2e12e5a92e5a82e68
   apply Zu 0x971f685d
   ·apply Zu 0x720f685d
    ·apply Zu 0xabe68e9
     ·apply Zu 0x52e
      rotate_left;apply Y 0x29;intro h9;apply Y 0xbb;exact ⟨fun hp=>by unfold ai at hp;omega,rfl,rfl⟩;apply Y 0x1b;intro h9;apply Zu 0x42e62ee1ee9e6e68
      rotate_left;apply Y 0x29;intro h9;rw [List.length_drop] at h9;apply Y 0xbb;exact ⟨fun hp=>by unfold ai at hp;omega,rfl,rfl⟩;apply Y 0x1b;intro h13;exact Zm 0xa2e12e5a92e5a82e68
     apply Zu 0x52eb4e68e9
     rotate_left;apply Y 0x29;intro h9;apply Y 0xbb;exact ⟨fun hp=>by unfold ai at hp;omega,rfl,rfl⟩;apply Y 0x1b;intro h9;apply Zu 0x42e62ee1e
     rotate_left;apply Y 0x29;intro h9;rw [List.length_drop] at h9;apply Y 0xbb;exact ⟨fun hp=>by unfold ai at hp;omega,rfl,rfl⟩;apply Y 0x1b;intro h13;exact Zm 0xa2e12e5a92e5a82e68
    apply Zu 0x52eb4e68e9d6e68e9
    rotate_left;apply Y 0x29;intro h9;apply Y 0xbb;exact ⟨fun hp=>by unfold ai at hp;omega,rfl,rfl⟩;apply Y 0x1b;intro h9;apply Zu 0x42e62ee1e
    rotate_left;apply Y 0x29;intro h9;rw [List.length_drop] at h9;apply Y 0xbb;exact ⟨fun hp=>by unfold ai at hp;omega,rfl,rfl⟩;apply Y 0x1b;intro h13;exact Zm 0xa2e12e5a92e5a82e68
   apply Zu 0x52eb4e68e9d6e685da5e68e9
   rotate_left;apply Y 0x29;intro h9;apply Y 0xbb;exact ⟨fun hp=>by unfold ai at hp;omega,rfl,rfl⟩;apply Y 0x1b;intro h9;apply Zu 0x42e62ee1e
   rotate_left;apply Y 0x29;intro h9;rw [List.length_drop] at h9;apply Y 0xbb;exact ⟨fun hp=>by unfold ai at hp;omega,rfl,rfl⟩;apply Y 0x1b;intro h13;exact Zm 0xa2e12e5a92e5a82e68
  apply Zu 0x3d0f5a
  ·apply Zu 0x58e5a
   ·apply Zu 0xa71f685d
    ·apply Zu 0x6d0f68e9
     ·apply Zu 0x52e
      rotate_left;apply Y 0x29;intro h9;apply Y 0xbb;exact ⟨fun hp=>by unfold ai at hp;omega,rfl,rfl⟩;apply Y 0x1b;intro h9;apply Zu 0x42e62ee1ee9e6e685d72e68
      rotate_left;apply Y 0x29;intro h9;rw [List.length_drop] at h9;apply Y 0xbb;exact ⟨fun hp=>by unfold ai at hp;omega,rfl,rfl⟩;apply Y 0x1b;intro h13;exact Zm 0xa2e12e5a92e5a82e68
     apply Zu 0xabe685d
     ·apply Zu 0x52e
      rotate_left;apply Y 0x29;intro h9;apply Y 0xbb;exact ⟨fun hp=>by unfold ai at hp;omega,rfl,rfl⟩;apply Y 0x1b;intro h9;apply Zu 0x42e62ee1ee9e6e68
      rotate_left;apply Y 0x29;intro h9;rw [List.length_drop] at h9;apply Y 0xbb;exact ⟨fun hp=>by unfold ai at hp;omega,rfl,rfl⟩;apply Y 0x1b;intro h13;exact Zm 0xa2e12e5a92e5a82e68
     apply Zu 0x52eb4e68e9
     rotate_left;apply Y 0x29;intro h9;apply Y 0xbb;exact ⟨fun hp=>by unfold ai at hp;omega,rfl,rfl⟩;apply Y 0x1b;intro h9;apply Zu 0x42e62ee1e
     rotate_left;apply Y 0x29;intro h9;rw [List.length_drop] at h9;apply Y 0xbb;exact ⟨fun hp=>by unfold ai at hp;omega,rfl,rfl⟩;apply Y 0x1b;intro h13;exact Zm 0xa2e12e5a92e5a82e68
    apply Zu 0x720f685d
    ·apply Zu 0xabe68e9
     ·apply Zu 0x52e
      rotate_left;apply Y 0x29;intro h9;apply Y 0xbb;exact ⟨fun hp=>by unfold ai at hp;omega,rfl,rfl⟩;apply Y 0x1b;intro h9;apply Zu 0x42e62ee1ee9e6e68
      rotate_left;apply Y 0x29;intro h9;rw [List.length_drop] at h9;apply Y 0xbb;exact ⟨fun hp=>by unfold ai at hp;omega,rfl,rfl⟩;apply Y 0x1b;intro h13;exact Zm 0xa2e12e5a92e5a82e68
     apply Zu 0x52eb4e68e9
     rotate_left;apply Y 0x29;intro h9;apply Y 0xbb;exact ⟨fun hp=>by unfold ai at hp;omega,rfl,rfl⟩;apply Y 0x1b;intro h9;apply Zu 0x42e62ee1e
     rotate_left;apply Y 0x29;intro h9;rw [List.length_drop] at h9;apply Y 0xbb;exact ⟨fun hp=>by unfold ai at hp;omega,rfl,rfl⟩;apply Y 0x1b;intro h13;exact Zm 0xa2e12e5a92e5a82e68
    apply Zu 0x52eb4e68e9d6e68e9
    rotate_left;apply Y 0x29;intro h9;apply Y 0xbb;exact ⟨fun hp=>by unfold ai at hp;omega,rfl,rfl⟩;apply Y 0x1b;intro h9;apply Zu 0x42e62ee1e
    rotate_left;apply Y 0x29;intro h9;rw [List.length_drop] at h9;apply Y 0xbb;exact ⟨fun hp=>by unfold ai at hp;omega,rfl,rfl⟩;apply Y 0x1b;intro h13;exact Zm 0xa2e12e5a92e5a82e68
   apply Zu 0x971f685d
   ·apply Zu 0x720f685d
    ·apply Zu 0xabe68e9
     ·apply Zu 0x52e
      rotate_left;apply Y 0x29;intro h9;apply Y 0xbb;exact ⟨fun hp=>by unfold ai at hp;omega,rfl,rfl⟩;apply Y 0x1b;intro h9;apply Zu 0x42e62ee1ee9e6e68
      rotate_left;apply Y 0x29;intro h9;rw [List.length_drop] at h9;apply Y 0xbb;exact ⟨fun hp=>by unfold ai at hp;omega,rfl,rfl⟩;apply Y 0x1b;intro h13;exact Zm 0xa2e12e5a92e5a82e68
     apply Zu 0x52eb4e68e9
     rotate_left;apply Y 0x29;intro h9;apply Y 0xbb;exact ⟨fun hp=>by unfold ai at hp;omega,rfl,rfl⟩;apply Y 0x1b;intro h9;apply Zu 0x42e62ee1e
     rotate_left;apply Y 0x29;intro h9;rw [List.length_drop] at h9;apply Y 0xbb;exact ⟨fun hp=>by unfold ai at hp;omega,rfl,rfl⟩;apply Y 0x1b;intro h13;exact Zm 0xa2e12e5a92e5a82e68
    apply Zu 0x52eb4e68e9d6e68e9
    rotate_left;apply Y 0x29;intro h9;apply Y 0xbb;exact ⟨fun hp=>by unfold ai at hp;omega,rfl,rfl⟩;apply Y 0x1b;intro h9;apply Zu 0x42e62ee1e
    rotate_left;apply Y 0x29;intro h9;rw [List.length_drop] at h9;apply Y 0xbb;exact ⟨fun hp=>by unfold ai at hp;omega,rfl,rfl⟩;apply Y 0x1b;intro h13;exact Zm 0xa2e12e5a92e5a82e68
   apply Zu 0x52eb4e68e9d6e685da5e68e9
   rotate_left;apply Y 0x29;intro h9;apply Y 0xbb;exact ⟨fun hp=>by unfold ai at hp;omega,rfl,rfl⟩;apply Y 0x1b;intro h9;apply Zu 0x42e62ee1e
   rotate_left;apply Y 0x29;intro h9;rw [List.length_drop] at h9;apply Y 0xbb;exact ⟨fun hp=>by unfold ai at hp;omega,rfl,rfl⟩;apply Y 0x1b;intro h13;exact Zm 0xa2e12e5a92e5a82e68
  apply Y 0x685d;refine LA.alt [0,6] oa ob ⟨⟨_,rfl,?_⟩,⟨_,rfl,?_⟩,trivial⟩
  ·apply Zu 0x971f5a
   ·apply Zu 0x720f685d
    ·apply Zu 0xabe68e9
     ·apply Zu 0x52e
      rotate_left;apply Y 0x29;intro h9;apply Y 0xbb;exact ⟨fun hp=>by unfold ai at hp;omega,rfl,rfl⟩;apply Y 0x1b;intro h9;apply Zu 0x42e62ee1ee9e6e68
      rotate_left;apply Y 0x29;intro h9;rw [List.length_drop] at h9;apply Y 0xbb;exact ⟨fun hp=>by unfold ai at hp;omega,rfl,rfl⟩;apply Y 0x1b;intro h13;exact Zm 0xa2e12e5a92e5a82e68
     apply Zu 0x52eb4e68e9
     rotate_left;apply Y 0x29;intro h9;apply Y 0xbb;exact ⟨fun hp=>by unfold ai at hp;omega,rfl,rfl⟩;apply Y 0x1b;intro h9;apply Zu 0x42e62ee1e
     rotate_left;apply Y 0x29;intro h9;rw [List.length_drop] at h9;apply Y 0xbb;exact ⟨fun hp=>by unfold ai at hp;omega,rfl,rfl⟩;apply Y 0x1b;intro h13;exact Zm 0xa2e12e5a92e5a82e68
    apply Zu 0x52eb4e68e9d6e68e9
    rotate_left;apply Y 0x29;intro h9;apply Y 0xbb;exact ⟨fun hp=>by unfold ai at hp;omega,rfl,rfl⟩;apply Y 0x1b;intro h9;apply Zu 0x42e62ee1e
    rotate_left;apply Y 0x29;intro h9;rw [List.length_drop] at h9;apply Y 0xbb;exact ⟨fun hp=>by unfold ai at hp;omega,rfl,rfl⟩;apply Y 0x1b;intro h13;exact Zm 0xa2e12e5a92e5a82e68
   apply Zu 0x52eb4e68e9d6e685da5e68e9
   rotate_left;apply Y 0x29;intro h9;apply Y 0xbb;exact ⟨fun hp=>by unfold ai at hp;omega,rfl,rfl⟩;apply Y 0x1b;intro h9;apply Zu 0x42e62ee1e
   rotate_left;apply Y 0x29;intro h9;rw [List.length_drop] at h9;apply Y 0xbb;exact ⟨fun hp=>by unfold ai at hp;omega,rfl,rfl⟩;apply Y 0x1b;intro h13;exact Zm 0xa2e12e5a92e5a82e68
  apply Zu 0x52eb4e68e9d6e685da5e5a4d0f68e9
  rotate_left;apply Y 0x29;intro h9;apply Y 0xbb;exact ⟨fun hp=>by unfold ai at hp;omega,rfl,rfl⟩;apply Y 0x1b;intro h9;apply Zu 0x42e62ee1e
  rotate_left;apply Y 0x29;intro h9;rw [List.length_drop] at h9;apply Y 0xbb;exact ⟨fun hp=>by unfold ai at hp;omega,rfl,rfl⟩;apply Y 0x1b;intro h13;exact Zm 0xa2e12e5a92e5a82e68
 rintro _ ⟨h9,h13⟩;have hf:=jV l;have hn:=jV (l.drop 2);rw [List.length_drop] at h13;apply Zu 0x8d2f2894ee95d9d8a<;>intro
 ·apply Y 0x1391dfd;refine C.cond rfl (fun _=>?_) (fun h=>by cases h);apply Y 0xfce620f7ba78;exact ⟨fun hp=>by unfold ai at hp;omega,rfl,rfl⟩
 apply Zu 0xac0fb8f9<;>intro
 ·apply Y 0x13939;refine C.cond rfl (fun _=>?_) (fun h=>by cases h);apply Y 0xfce620f7ba78;exact ⟨fun hp=>by unfold ai at hp;omega,rfl,rfl⟩
 apply Zu 0x2a494e4e945df9da7d<;>intro
 ·apply Y 0xfce620f7ba78;exact ⟨fun hp=>by unfold ai at hp;omega,rfl,rfl⟩
 apply Y 0x7e95d1c9849ee95ddab88d;refine ba (js:=[0]) (js':=[]) (DI T 3 A [.int .i64 ((be2 l:Int)+(be2 (l.drop 2):Int)),.int .i64 size] (bh (bh S c 2 1) (c-2) 2 1) ((l.drop 2).drop 2) (c-2-2) (be2 (l.drop 2)) QS oe) rfl rfl rfl ob trivial rfl ?_ ?_
 rotate_left;apply Y 0x29;intro h47;rw [List.length_drop,List.length_drop] at h47;apply Y 0xfce;exact ⟨fun hp=>by unfold ai at hp;omega,rfl,rfl⟩;apply Y 0x1b;intro h47;rw [List.length_drop,List.length_drop] at h47;apply Y 0xe838;refine fe (js:=[]) (hs:=[0]) (vs:=[_,_]) rfl rt ob ?_;exact ⟨by unfold ai;omega,rfl,rfl,rfl⟩
end Go.Proofs.YtbpddeiogcgegaaGreat
