/-
  Part of a proof.
-/
import Derived.Test.YtbpddeiogcgegaaGreatUTf
set_option maxHeartbeats 0
set_option maxRecDepth 4000
set_option linter.all false
namespace Go.Proofs.YtbpddeiogcgegaaGreat
open Go.Sl
theorem MM (a:Int):
    Ctr X 217 [.int .i64 a] [] [] (fun v R' H'=>v=.bool false∧R'=[]∧H'=[]):=by
 refine co Tryz.func217 ?_;intro β;exact Zm 0x151fd9381c1a
theorem Iu (a:Int):
    Ctr X 279 [.int .i64 a] [] [] (fun v R' H'=>v=.bool false∧R'=[]∧H'=[]):=by
 refine co Tryz.func279 ?_;intro β;exact Zm 0x151fd9381c1a
theorem IF (a b:Int):
    Ctr X 166 [.int .i64 a,.int .i64 b] [] [] (fun v R' H'=>v=.bool (decide (a<b))∧R'=[]∧H'=[]):=by
 refine co Tryz.func166 ?_;intro β;apply Y 0xb91a;refine al (MM _) ?_;exact Zm 0x33ed9d87d28ca788
theorem yR (A:Option Addr)(l:List Int)(c:Nat)(n:Int)(hl:l.length≤9223372036854775807):
    Ctr X 133 [.slice A l.length c,.int .i64 n] [Rd A (I64 l)] [] (fun v R' H'=>v=.bool (l.contains n)∧R'=[]∧H'=[]):=by
 refine co Tryz.func133 ?_;intro β;apply Y 0xcd30e;refine lp [0,1] [_,_] (fun k:Nat=>[(5,.int .i64 (k:Int))]) (kz [_]) nz (fun k=>k≤l.length∧∀ i,i<k→l.getD i 0≠n) (fun k=>l.length-k) 0 ⟨Nat.zero_le _,bq⟩ (lk [0] []) ?_;apply Y 0xb1e;intro k hk hno;apply Zu 0x2a9d<;>intro
 ·apply Zu 0x4d38230f9b1f1c99<;>intro hc17
  ·apply Y 0x4b3da0e;exact ⟨congrArg Value.bool ((jy oe hc17).symm),rfl,rfl⟩
  exact Zm 0x713f9a7a
 apply Y 0xd91aa9;exact ⟨congrArg Value.bool ((kI (fun i hi=>hno i oe)).symm),rfl,rfl⟩
theorem F1 (A:Option Addr)(l:List Int)(c:Nat)(n:Int)(hl:l.length≤9223372036854775807):
    Ctr X 240 [.slice A l.length c,.int .i64 n] [Rd A (I64 l)] [] (fun v R' H'=>∃ q:Int,v=.int .i64 q∧R'=[]∧H'=[]∧decide (q≥0)=l.contains n):=by
 refine co Tryz.func240 ?_;intro β;apply Y 0xaad8581a;refine lp [0,1,7] [_,_,_] (fun k:Nat=>[(8,.int .i64 (k:Int))]) (kz [_]) nz (fun k=>k≤l.length∧∀ i,i<k→l.getD i 0≠n) (fun k=>l.length-k) 0 ⟨Nat.zero_le _,bq⟩ (lk [0] []) ?_;apply Y 0xb1e;intro k hk hno;apply Zu 0x7930e<;>intro
 ·apply Zu 0x4d1230f9b1fb848c899<;>intro hc16
  ·apply Y 0x4b3d2dc8;refine ⟨_,rfl,rfl,rfl,?_⟩;rw [jy oe hc16.symm];exact Zm 0x941f
  apply Y 0x20efb7a;refine QE.round (k+1) (by exact ⟨by omega,bx hno (fun e=>hc16 e.symm)⟩) oe (lk [0] [])
 apply Y 0xd91aa9;refine ⟨_,rfl,rfl,rfl,?_⟩;rw [kI (fun i hi=>hno i oe)];exact Zm 0x2
theorem kP (A:Option Addr)(l:List Int)(c:Nat)(n:Int)(hl:l.length≤9223372036854775807):
    Ctr X 200 [.slice A l.length c,.int .i64 n] [Rd A (I64 l)] [] (fun v R' H'=>v=.bool (l.contains n)∧R'=[]∧H'=[]):=by
 refine co Tryz.func200 ?_;intro β;apply Y 0x1c1a;refine al (F1 A l c n hl) ?_;apply Y 0xa40f;intro q hq;apply Y 0xd938;exact ⟨congrArg Value.bool (hq),rfl,rfl⟩
theorem nq (LA:Option Addr)(ls:List (List Int))(lc:Nat)(hs:List Hd)(hh:hs.length=ls.length)(hll:ls.length≤9223372036854775807)(hlr:∀ i,(ls.getD i []).length≤9223372036854775807):
    Ctr X 129 [.slice LA ls.length lc] [Rd LA (aC hs (J8 ls)),aS hs (J8 ls)] [] (fun v R' H'=>v=.bool (cw ls)∧R'=[]∧H'=[]):=by
 refine co Tryz.func129 ?_;intro β;apply Y 0xcd30e;refine lp [0] [_] (fun u:Nat=>[(3,.int .i64 (u:Int))]) (kz [_,_]) nz (fun u=>u≤ls.length∧∀ i,i<u→ie ls.length i (ls.getD i [])=true) (fun u=>ls.length-u) 0 ⟨Nat.zero_le _,bq⟩ (lk [0,1] []) ?_;apply Y 0xb1e;intro u hu hu2;apply Zu 0x2a9d<;>intro
 ·apply Y 0x599;have hrl:=hlr u;apply Y 0xaa178;refine lp [0,3] [_,_] (fun j:Nat=>[(4,.int .i64 (j:Int))]) (kz [_,_]) nz (fun j=>j≤(ls.getD u []).length∧∀ i,i<j→¬il ls.length u (ls.getD u []) i) (fun j=>(ls.getD u []).length-j) 0 ⟨Nat.zero_le _,bq⟩ (lk [0,1] []) ?_;apply Y 0xb1e;intro j hj hj2;apply Zu 0x2a330f301fb858<;>intro
  ·apply Y 0x7330f301f1c99;refine sp (ae (k:=j) rfl rfl rfl rfl rfl rfl rfl oe ((Src.kid 1 rfl qp (u) qU).cast (dq _)) ov) ?_;apply Zu 0xb61fb8481c73f<;>intro
   ·apply Y 0x1fd39391dca2839;refine C.cond rfl (fun _=>?_) (fun h=>by cases h);apply Y 0x290f5;intro hN;exact Zm 0xdb0f4b3d93eaaebae2d178
   apply Y 0xb87dbc;refine L.bool 36 rfl (imp of_decide_eq_true ?_) (imp of_decide_eq_false ?_)<;>intro
   ·apply Y 0x1fd39391dca;refine C.cond rfl (fun _=>?_) (fun h=>by cases h);apply Y 0x290f5;intro hN;exact Zm 0xdb0f4b3d93eaaebae2d178
   apply Zu 0x4e2fb87d<;>intro
   ·apply Y 0x1fd393939;refine C.cond rfl (fun _=>?_) (fun h=>by cases h);apply Y 0x290f5;intro hN;exact Zm 0xdb0f4b3d93eaaebae2d178
   apply Zu 0xd61fbcbcbc<;>intro
   ·apply Y 0x461ef9330f4301f7dbc;refine sp (ae (k:=(j-1)) rfl rfl rfl rfl rfl rfl oe oe ((Src.kid 1 rfl qp (u) qU).cast (dq _)) ov) ?_;apply Zu 0x2af9c73f4<;>intro
    ·apply Y 0x290f5;intro hN;exact Zm 0xdb0f4b3d93eaaebae2d178
    apply Y 0xb32f;intro hN;exact Zm 0x213f9a7a
   apply Y 0xb32f;intro hN;apply Y 0x384fd3939;refine C.cond rfl (fun h=>by cases h) (fun _=>?_);exact Zm 0x213f9a7a
  apply Y 0x9ae5e;refine QE.round (u+1) (by exact ⟨by omega,bx hu2 (nv (fun i hi=>hj2 i oe))⟩) oe (lk [0,1] [])
 apply Y 0xd91aa9;exact ⟨congrArg Value.bool ((nt (fun i hi=>hu2 i oe)).symm),rfl,rfl⟩
theorem M0 (LA:Option Addr)(ls:List (List Int))(lc:Nat)(hs:List Hd)(hh:hs.length=ls.length)(hll:ls.length≤9223372036854775807)(hlr:∀ i,(ls.getD i []).length≤9223372036854775807)(dn sn:List Int)(DA SA:Option Addr)(dc sc t:Nat)(hdn:dn.length≤1000000)(hsn:sn.length≤1000000)(ht:t≤1000000):
    Ctr X 203 [.slice LA ls.length lc,.slice DA dn.length dc,.slice SA sn.length sc,.int .i64 (t:Int)] [Rd LA (aC hs (J8 ls)),aS hs (J8 ls),Rd DA (I64 dn),Rd SA (I64 sn)] [] (fun v R' H'=>v=.bool (Ay ls dn sn t)∧R'=[]∧H'=[]):=by
 refine co Tryz.func203 ?_;intro β;apply Y 0xcd30e;refine lp [0,1,2,3] [_,_,_,_] (fun u:Nat=>[(9,.int .i64 (u:Int))]) (kz [_,_,_,_]) nz (fun u=>u≤ls.length∧∀ i,i<u→(decide (i=t)|| !(ls.getD i []).contains (t:Int)||dn.contains (i:Int))=true) (fun u=>ls.length-u) 0 ⟨Nat.zero_le _,bq⟩ (lk [0,1,2,3] []) ?_;apply Y 0xb1e;intro u hu hu2;apply Zu 0x161fb89d<;>intro
 ·apply Y 0x7d;refine al (yR SA sn sc (t:Int) oe) ?_;apply Zu 0x3a38488<;>intro hc19
  ·have hst:sn.contains (t:Int)=false:=Q5;apply Zu 0xad2f281c99<;>intro
   ·have hne:decide (u=t)=false:=decide_eq_false oe;apply Y 0xf9330f4301f7d;refine L.call (js:=[]) (js':=[]) (yR (hs.getD u (none,0)).1 (ls.getD u []) (hs.getD u (none,0)).2 (t:Int) (hlr u)) rfl rfl rfl ob ⟨((Has.kid 1 rfl qp (u) qU).cast (dq _)),trivial⟩ rfl ?_;apply Y 0x2888;refine L.bool 33 rfl ?_ ?_<;>intro hg33
    ·apply Y 0x7d;refine al (yR DA dn dc (u:Int) oe) ?_;apply Zu 0x3a38488<;>intro hc38
     ·have hx:(decide (u=t)|| !(ls.getD u []).contains (t:Int)||dn.contains (u:Int))=false:=by
       have h2:dn.contains (u:Int)=false:=by simpa using hc38
       rw [hne,hg33,h2];exact Zm 0x2
      apply Y 0x4b3da0e;exact ⟨congrArg Value.bool ((Gw hst oe hx).symm),rfl,rfl⟩
     have hx:(decide (u=t)|| !(ls.getD u []).contains (t:Int)||dn.contains (u:Int))=true:=by
      first
       |exact hx
       |(have h2:dn.contains (u:Int)=true:=(by simpa using hc38);rw [h2];simp)
     exact Zm 0xf81f9a7a
    have hx:(decide (u=t)|| !(ls.getD u []).contains (t:Int)||dn.contains (u:Int))=true:=by rw [hg33];simp
    apply Y 0x139;refine C.cond rfl (fun h=>by cases h) (fun _=>?_);exact Zm 0xf81f9a7a
   have hx:(decide (u=t)|| !(ls.getD u []).contains (t:Int)||dn.contains (u:Int))=true:=by rw [decide_eq_true (show u=t by omega)];rfl
   apply Y 0x11dfd39;refine C.cond rfl (fun h=>by cases h) (fun _=>?_);exact Zm 0xf81f9a7a
  have hst:sn.contains (t:Int)=true:=Q5;apply Y 0xd91aa9;exact ⟨congrArg Value.bool ((Gv hst).symm),rfl,rfl⟩
 apply Y 0x139;refine C.cond rfl (fun h=>by cases h) (fun _=>?_);apply Y 0xd91aa9;exact ⟨congrArg Value.bool ((CY (fun i hi=>hu2 i oe)).symm),rfl,rfl⟩
theorem MT (A:Option Addr)(l:List Nat)(c:Nat)(n:Int)(hl:l.length≤9223372036854775807):Ctr X 133 [.slice A l.length c,.int .i64 n] [Rd A (I64 (NI l))] [] (fun v R' H'=>v=.bool ((NI l).contains n)∧R'=[]∧H'=[]):=by
 have:=yR A (NI l) c n obz
 rwa [bm] at this
theorem MZ (LA:Option Addr)(ls:List (List Int))(lc:Nat)(hs:List Hd)(hh:hs.length=ls.length)(hll:ls.length≤9223372036854775807)(hlr:∀ i,(ls.getD i []).length≤9223372036854775807)(dn:List Nat)(sn:List Int)(DA SA:Option Addr)(dc sc t:Nat)(hdn:dn.length≤1000000)(hsn:sn.length≤1000000)(ht:t≤1000000):Ctr X 203 [.slice LA ls.length lc,.slice DA dn.length dc,.slice SA sn.length sc,.int .i64 (t:Int)] [Rd LA (aC hs (J8 ls)),aS hs (J8 ls),Rd DA (I64 (NI dn)),Rd SA (I64 sn)] [] (fun v R' H'=>v=.bool (Ay ls (NI dn) sn t)∧R'=[]∧H'=[]):=by
 have:=M0 LA ls lc hs hh hll hlr (NI dn) sn DA SA dc sc t (by rw [bm];exact hdn) hsn ht
 rwa [bm] at this
theorem za (LA:Option Addr)(ls:List (List Int))(lc:Nat)(hs:List Hd)(hh:hs.length=ls.length)(hll:ls.length≤9223372036854775807)(hlr:∀ i,(ls.getD i []).length≤9223372036854775807)(hr:cw ls=true)(hn:ls.length≤60)(sn:List Int)(SA:Option Addr)(sc:Nat)(hsn:sn.length≤1000000):
    Ctr X 131 [.slice LA ls.length lc,.slice SA sn.length sc] [Rd LA (aC hs (J8 ls)),aS hs (J8 ls),Rd SA (I64 sn)] [] (fun v R' H'=>∃ (A:Option Addr) (c:Nat),v=.slice A (frs ls.length (rdP ls) (fun t=>sn.contains (t:Int)) ls.length).length c∧R'=[]∧H'=[Own 3 1 A (frs ls.length (rdP ls) (fun t=>sn.contains (t:Int)) ls.length).length c (I64 (NI (frs ls.length (rdP ls) (fun t=>sn.contains (t:Int)) ls.length)))]):=by
 refine co Tryz.func131 ?_;intro β;apply Y 0x2b481a;intro A8;apply Y 0xcd49;refine lp [] [] (fun q:Nat×Option Addr×Nat=>[(0,.slice LA ls.length lc),(1,.slice SA sn.length sc),(5,.slice q.2.1 (frs ls.length (rdP ls) (fun t=>sn.contains (t:Int)) q.1).length q.2.2),(6,.int .i64 (q.1:Int))]) (kz [_,_,_]) (fun q=>[Own 3 1 q.2.1 (frs ls.length (rdP ls) (fun t=>sn.contains (t:Int)) q.1).length q.2.2 (I64 (NI (frs ls.length (rdP ls) (fun t=>sn.contains (t:Int)) q.1)))]) (fun q=>q.1≤ls.length) (fun q=>ls.length-q.1) (0,A8,0) (Nat.zero_le _) (lk [0,1,2] [0]) ?_;apply Y 0xf1e;intro k A c hk
 dsimp only at hk ⊢;apply Zu 0x2a9d<;>intro
 ·apply Y 0x599;have hfl:=Gc (n:=ls.length) (p:=rdP ls) (st:=fun t=>sn.contains (t:Int)) k;apply Y 0xaa178;refine lp [] [] (fun t:Nat=>[(0,.slice LA ls.length lc),(1,.slice SA sn.length sc),(5,.slice A (frs ls.length (rdP ls) (fun t=>sn.contains (t:Int)) k).length c),(6,.int .i64 (k:Int)),(7,.int .i64 (t:Int))]) (kz [_,_,_]) (fun t=>[Own 3 1 A (frs ls.length (rdP ls) (fun t=>sn.contains (t:Int)) k).length c (I64 (NI (frs ls.length (rdP ls) (fun t=>sn.contains (t:Int)) k)))]) (fun t=>∀ i,i<t→ru ls.length (rdP ls) (fun t=>sn.contains (t:Int)) (frs ls.length (rdP ls) (fun t=>sn.contains (t:Int)) k) i=false) (fun t=>ls.length-t) 0 bq (lk [0,1,2] [0]) ?_;intro t hno;apply Zu 0x2a9d<;>intro
  ·apply Y 0x599;have hnc:=FA (sn:=sn) (out:=(frs ls.length (rdP ls) (fun t=>sn.contains (t:Int)) k)) hr (t:=t) oe;apply Y 0xac;refine al (MT A (frs ls.length (rdP ls) (fun t=>sn.contains (t:Int)) k) c (t:Int) oe) ?_;apply Y 0x2888;refine L.bool 25 rfl ?_ ?_<;>intro hg25
   ·have hi:(NI (frs ls.length (rdP ls) (fun t=>sn.contains (t:Int)) k)).contains (t:Int)=false:=by simpa using hg25
    apply Y 0x7dbcbc;refine al (MZ LA ls lc hs hh hll hlr (frs ls.length (rdP ls) (fun t=>sn.contains (t:Int)) k) sn A SA c sc t oe hsn oe) ?_;apply Zu 0x3a188<;>intro hc31
    ·have hx:ru ls.length (rdP ls) (fun t=>sn.contains (t:Int)) (frs ls.length (rdP ls) (fun t=>sn.contains (t:Int)) k) t=true:=by rw [hnc,hi,hc31];rfl
     apply Y 0x2b1c;intro A34;apply Y 0x750f;intro A35 cc35;apply Y 0x9a340f1e0f39e1;have he:=Cz hno oe hx;refine QE.round (i:=(k,A,c)) ((k+1,A35,cc35)) ot ot (by exact lk [0,1,2] [0] ⟨rfl,rfl,OH,rfl,trivial⟩ (hh:=⟨(congrArg some (ay OH qd)),trivial⟩))
    have hx:ru ls.length (rdP ls) (fun t=>sn.contains (t:Int)) (frs ls.length (rdP ls) (fun t=>sn.contains (t:Int)) k) t=false:=by
     first
      |exact hx
      |(rw [hnc,hi,hc31];rfl)
    exact Zm 0x813f9a7a
   have hx:ru ls.length (rdP ls) (fun t=>sn.contains (t:Int)) (frs ls.length (rdP ls) (fun t=>sn.contains (t:Int)) k) t=false:=by
    have hi:(NI (frs ls.length (rdP ls) (fun t=>sn.contains (t:Int)) k)).contains (t:Int)=true:=by simpa using hg25
    rw [hnc,hi];exact Zm 0x2
   apply Y 0x1ea;refine C.cond rfl (fun h=>by cases h) (fun _=>?_);exact Zm 0x813f9a7a
  apply Y 0x9ae5e;have he:=CB (fun i hi=>hno i oe);refine QE.round (i:=(k,A,c)) ((k+1,A,c)) ot ot (by exact lk [0,1,2] [0] ⟨rfl,rfl,Qm,rfl,trivial⟩ (hh:=⟨(congrArg some OT),trivial⟩))
 apply Y 0x91ee8c8a9;obtain rfl:k=ls.length:=oe;exact Zm 0x18e
theorem AS (f n:Nat):
    Ctr X 130 [.int .i64 (f:Int),.int .i64 (n:Int),.int .i64 ((0:Nat):Int)] [] [] (fun v R' H'=>∃ (Q:Option Addr) (qc:Nat) (qs:List Hd),v=.slice Q (stL 0 f n).length qc∧R'=[aS qs (J8 (NL (stL 0 f n)))]∧H'=[Own 31 1 Q (stL 0 f n).length qc (aC qs (J8 (NL (stL 0 f n))))]∧qs.length=(stL 0 f n).length):=by
 refine co Tryz.func130 ?_;intro β;apply Zu 0x4d38581a<;>intro hc13
 ·apply Y 0x2b48;intro A14;apply Y 0x2b;intro A15;apply Y 0x891;refine qfz 0 [1] ?_;refine QE.more (r:=aS [] []) (Has.kids0) ?_;refine QE.more (r:=aS [(A14,0)] (J8 (NL [[]]))) (dI (hs:=[]) (vss:=[]) 0 1 0 rfl rfl rfl) ?_;refine qrt [0] [0] [_] rfl rt ?_;exact ⟨A15,1,[(A14,0)],rfl,rfl,rfl,rfl⟩
 exact (hc13 rfl).elim
theorem AQ (k:Nat)(hk:k≤100)(ih:∀ (f n:Nat),n≤16→Ctr X 130 [.int .i64 (f:Int),.int .i64 (n:Int),.int .i64 (k:Int)] [] [] (fun v R' H'=>∃ (Q:Option Addr) (qc:Nat) (qs:List Hd),v=.slice Q (stL k f n).length qc∧R'=[aS qs (J8 (NL (stL k f n)))]∧H'=[Own 31 1 Q (stL k f n).length qc (aC qs (J8 (NL (stL k f n))))]∧qs.length=(stL k f n).length))(f n:Nat)(hn:n≤16):
    Ctr X 130 [.int .i64 (f:Int),.int .i64 (n:Int),.int .i64 ((k+1:Nat):Int)] [] [] (fun v R' H'=>∃ (Q:Option Addr) (qc:Nat) (qs:List Hd),v=.slice Q (stL (k+1) f n).length qc∧R'=[aS qs (J8 (NL (stL (k+1) f n)))]∧H'=[Own 31 1 Q (stL (k+1) f n).length qc (aC qs (J8 (NL (stL (k+1) f n))))]∧qs.length=(stL (k+1) f n).length):=by
 refine co Tryz.func130 ?_;intro β;apply Zu 0x4d38581a<;>intro
 ·exact Zm 0x18
 apply Y 0x2b8d;intro A16;apply Y 0x851faa38581;refine lp [] [] (fun q:Nat×Option Addr×Nat×List Hd=>[(0,.int .i64 (f:Int)),(1,.int .i64 (n:Int)),(2,.int .i64 ((k+1:Nat):Int)),(7,.slice q.2.1 (stP k f n q.1).length q.2.2.1),(8,.int .i64 ((f+q.1:Nat):Int))]) (fun q=>[aS q.2.2.2 (J8 (NL (stP k f n q.1)))]) (fun q=>[Own 31 1 q.2.1 (stP k f n q.1).length q.2.2.1 (aC q.2.2.2 (J8 (NL (stP k f n q.1))))]) (fun q=>q.1≤n-f∧q.2.2.2.length=(stP k f n q.1).length) (fun q=>n-f-q.1) (0,A16,0,[]) ⟨Nat.zero_le _,rfl⟩ (lk [0] [0]) ?_;apply Y 0xd10f;intro d Q qc qs hd hqs
 dsimp only at hd hqs ⊢;apply Zu 0x79d858<;>intro
 ·apply Y 0x599;have hdn:d<n-f:=oe;have hps:=wL k f n d oe;have hp2:=dZ (f:=f) hn;apply Y 0xab;refine sp (Ev.cast (u:=.int .i64 ((f+d+1:Nat):Int)) (Ev.add rfl rfl oe oe) (congrArg (Value.int .i64) oe)) ?_;apply Y 0x28;refine sp (Ev.cast (u:=.int .i64 ((k:Nat):Int)) (Ev.sub rfl rfl oe oe) (congrArg (Value.int .i64) oe)) ?_;refine aL (ih (f+d+1) n hn) ?_;apply Y 0x6ee;intro S sc ss hss;apply Y 0xaa1787c49;obtain ⟨Q0,hQ0⟩:∃ x,x=Q:=⟨_,rfl⟩;obtain ⟨qc0,hqc0⟩:∃ x,x=qc:=⟨_,rfl⟩;obtain ⟨qs0,hqs0⟩:∃ x,x=qs:=⟨_,rfl⟩;refine lp [] [] (fun q:Nat×Option Addr×Nat×List Hd=>[(0,.int .i64 (f:Int)),(1,.int .i64 (n:Int)),(2,.int .i64 ((k+1:Nat):Int)),(8,.int .i64 ((f+d:Nat):Int)),(9,.slice S (stL k (f+d+1) n).length sc),(7,.slice q.2.1 (stQ k f n d q.1).length q.2.2.1),(10,.int .i64 (q.1:Int))]) (kzz [_,_] [] fun q=>[aS q.2.2.2 (J8 (NL (stQ k f n d q.1)))]) (fun q=>[Own 31 1 q.2.1 (stQ k f n d q.1).length q.2.2.1 (aC q.2.2.2 (J8 (NL (stQ k f n d q.1))))]) (fun q=>q.1≤(stL k (f+d+1) n).length∧q.2.2.2.length=(stQ k f n d q.1).length) (fun q=>(stL k (f+d+1) n).length-q.1) (0,Q,qc,qs) ⟨Nat.zero_le _,by dsimp only;rw [ir];exact hqs⟩ (by exact lk [0,1,2] [0] ⟨rfl,rfl,rfl,rfl,rfl,(by dsimp only;rw [ir];rfl),rfl,trivial⟩ (hr:=⟨rfl,rfl,(congrArg some (by dsimp only;rw [ir])),trivial⟩) (hh:=⟨(congrArg some (by dsimp only;rw [ir])),trivial⟩)) ?_;apply Y 0xd10f;intro i Q qc qs hi hqs
  dsimp only at hi hqs ⊢;apply Zu 0x2a9d<;>intro
  ·apply Y 0x599;have hsl:=lr k (f+d+1) n;have hp3:=dZ (f:=f+d+1) hn;have hli:=wN (k:=k) (f:=f+d+1) (n:=n) (i:=i) oe;have hql:=EP (k:=k) (i:=i) (show d+1≤n-f by omega);apply Y 0x2bab;intro A36;apply Y 0x783f373f28;refine L.append (j:=1) rfl rfl rfl rfl ob rfl rfl rfl rfl ((Src.kid 1 rfl Qc (i) oa1).cast (dq _)) oY (cY _) oe oU rfl (fun A41 cc41=>?_);apply Y 0xb2e1;have he:=AW (k:=k) (f:=f) (n:=n) (d:=d) (i:=i) oe;have hlen:((NL (stL k (f+d+1) n)).getD i []).length=((stL k (f+d+1) n).getD i []).length:=by rw [py oe,bm]
   apply Y 0x2bac;intro A44;refine L.append (j:=0) rfl rfl rfl rfl ob rfl rfl rfl rfl (Src.o 1 rfl) rfl (by intro v hv;simp at hv;subst hv;rfl) oe QD rfl (fun A45 cc45=>?_);apply Y 0x9a81e;refine QE.more (r:=Rd A41 (I64 (NI ((f+d)::((stL k (f+d+1) n).getD i []))))) ((Has.r 0 rfl).cast (by rw [show NI ((f+d)::((stL k (f+d+1) n).getD i []))=((f+d:Nat):Int)::NI ((stL k (f+d+1) n).getD i []) from rfl,← py oe];rfl)) ?_;refine QE.more (r:=aS (qs++[(A41,cc41)]) (J8 (NL (stQ k f n d i))++[I64 (NI ((f+d)::((stL k (f+d+1) n).getD i [])))])) (dI 4 0 cc41 rfl rfl (by rw [bS,j4];exact hqs)) ?_;refine QE.round (i:=(i,Q,qc,qs)) ((i+1,A45,cc45,qs++[(A41,cc41)])) (by exact ⟨by dsimp only;omega,by dsimp only;rw [he,List.length_append,List.length_append,hqs];rfl⟩) ot (by exact lk [3,4,0] [0] ⟨rfl,rfl,rfl,rfl,rfl,OH,rfl,trivial⟩ (hr:=⟨rfl,rfl,(congrArg some (by dsimp only;rw [he,Ex,show NL [(f+d)::((stL k (f+d+1) n).getD i [])]=[NI ((f+d)::((stL k (f+d+1) n).getD i []))] from rfl,← mJ])),trivial⟩) (hh:=⟨(congrArg some (ay OH (by dsimp only;rw [he,Ex,show NL [(f+d)::((stL k (f+d+1) n).getD i [])]=[NI ((f+d)::((stL k (f+d+1) n).getD i []))] from rfl,← jd (by rw [j4];exact hqs),bm,List.length_cons,hlen,Nat.add_comm 1]))),trivial⟩))
  apply Y 0xabfbe5e;refine sp (Ev.cast (u:=.int .i64 ((f+(d+1):Nat):Int)) (Ev.add rfl rfl oe oe) (congrArg (Value.int .i64) oe)) ?_;apply Y 0x81e;have he:=ER (k:=k) (f:=f) (n:=n) (d:=d) (i:=i) oe;refine QE.round (i:=(d,Q0,qc0,qs0)) ((d+1,Q,qc,qs)) (by exact ⟨by dsimp only;omega,by dsimp only;rw [← he];exact hqs⟩) ot (by exact lk [2] [0] ⟨rfl,rfl,rfl,(by dsimp only;rw [← he];rfl),rfl,trivial⟩ (hr:=⟨(congrArg some OT),trivial⟩) (hh:=⟨(congrArg some OT),trivial⟩))
 apply Y 0xe8c8a9;refine qrt [0] [0] [_] rfl rt ?_;obtain rfl:d=n-f:=oe;rw [pQ] at*;exact ⟨Q,qc,qs,rfl,rfl,rfl,hqs⟩
theorem wG:∀ (k:Nat),k≤100→∀ (f n:Nat),n≤16→Ctr X 130 [.int .i64 (f:Int),.int .i64 (n:Int),.int .i64 (k:Int)] [] [] (fun v R' H'=>∃ (Q:Option Addr) (qc:Nat) (qs:List Hd),v=.slice Q (stL k f n).length qc∧R'=[aS qs (J8 (NL (stL k f n)))]∧H'=[Own 31 1 Q (stL k f n).length qc (aC qs (J8 (NL (stL k f n))))]∧qs.length=(stL k f n).length)
  |0,_,f,n,_=>AS f n
  |k+1,hk,f,n,hn=>AQ k oe (fun f n hn=>wG k oe f n hn) f n hn
end Go.Proofs.YtbpddeiogcgegaaGreat
