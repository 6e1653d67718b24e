/-
  Part of a proof.
-/
import Derived.Test.YtbpddeiogcgegaaGreatYTc
import Derived.Test.YtbpddeiogcgegaaGreatYSlT
set_option maxHeartbeats 0
set_option maxRecDepth 4000
set_option linter.all false
namespace Go.Proofs.YtbpddeiogcgegaaGreat
open Go.Sl
theorem NY (a:Int):
    Ctr X 217 [.int .i64 a] [] [] (fun v R' H'=>v=.bool false∧R'=[]∧H'=[]):=by
 refine co Tryz.func217 ?_;intro β;apply Y 0x39bb5812;exact ⟨congrArg Value.bool Ob,rfl,rfl⟩
theorem J6 (a:Int):
    Ctr X 279 [.int .i64 a] [] [] (fun v R' H'=>v=.bool false∧R'=[]∧H'=[]):=by
 refine co Tryz.func279 ?_;intro β;apply Y 0x39bb5812;exact ⟨congrArg Value.bool Ob,rfl,rfl⟩
theorem Kf (a b:Int):
    Ctr X 166 [.int .i64 a,.int .i64 b] [] [] (fun v R' H'=>v=.bool (decide (a<b))∧R'=[]∧H'=[]):=by
 refine co Tryz.func166 ?_;intro β;apply Y 0x4812;refine an (NY _) ?_;exact Zm 0xd1e395a5b86a52b329
theorem Bv (A:Option Addr)(l:List Int)(c:Nat)(n:Int)(hl:l.length≤9223372036854775807):
    Ctr X 133 [.slice A l.length c,.int .i64 n] [Rd A (I64 l)] [] (fun v R' H'=>v=.bool (l.contains n)∧R'=[]∧H'=[]):=by
 refine co Tryz.func133 ?_;intro β;apply Y 0x192da;refine lp [0,1] [_,_] (fun k:Nat=>[(5,.int .i64 (k:Int))]) (kz [_]) nz (fun k=>k≤l.length∧∀ i,i<k→l.getD i 0≠n) (fun k=>l.length-k) 0 ⟨Nat.zero_le _,bA⟩ (lk [0] []) ?_;apply Y 0xf0e;intro k hk hno;apply Zu 0x786c4<;>intro
 ·apply Zu 0x40e13ffe931f5849<;>intro hc17
  ·apply Y 0x4babf9;exact ⟨congrArg Value.bool ((kV oe hc17).symm),rfl,rfl⟩
  apply Y 0x3ad9;refine QE.round (k+1) obm oe (lk [0] [])
 apply Y 0x39f969;exact ⟨congrArg Value.bool ((mC (fun i hi=>hno i oe)).symm),rfl,rfl⟩
theorem Ih (A:Option Addr)(l:List Int)(c:Nat)(n:Int)(hl:l.length≤9223372036854775807):
    Ctr X 240 [.slice A l.length c,.int .i64 n] [Rd A (I64 l)] [] (fun v R' H'=>∃ q:Int,v=.int .i64 q∧R'=[]∧H'=[]∧decide (q≥0)=l.contains n):=by
 refine co Tryz.func240 ?_;intro β;apply Y 0x1958da;refine lp [0,1,7] [_,_,_] (fun k:Nat=>[(8,.int .i64 (k:Int))]) (kz [_]) nz (fun k=>k≤l.length∧∀ i,i<k→l.getD i 0≠n) (fun k=>l.length-k) 0 ⟨Nat.zero_le _,bA⟩ (lk [0] []) ?_;apply Y 0xf0e;intro k hk hno;apply Zu 0x1cda<;>intro
 ·apply Zu 0x40e1ffe931f6c2d49<;>intro hc16
  ·apply Y 0x4bab7c;refine ⟨_,rfl,rfl,rfl,?_⟩;rw [kV oe hc16.symm]
   exact decide_eq_true oe
  apply Y 0x6dd9;refine QE.round (k+1) (by exact ⟨by omega,bK hno (fun e=>hc16 e.symm)⟩) oe (lk [0] [])
 apply Y 0x39f969;refine ⟨_,rfl,rfl,rfl,?_⟩;rw [mC (fun i hi=>hno i oe)]
 rfl
theorem mL (A:Option Addr)(l:List Int)(c:Nat)(n:Int)(hl:l.length≤9223372036854775807):
    Ctr X 200 [.slice A l.length c,.int .i64 n] [Rd A (I64 l)] [] (fun v R' H'=>v=.bool (l.contains n)∧R'=[]∧H'=[]):=by
 refine co Tryz.func200 ?_;intro β;apply Y 0x5812;refine an (Ih A l c n hl) ?_;apply Y 0xb10f;intro q hq;apply Y 0x39bb;exact ⟨congrArg Value.bool (hq),rfl,rfl⟩
theorem rF (LA:Option Addr)(ls:List (List Int))(lc:Nat)(hs:List Hd)(hh:hs.length=ls.length)(hll:ls.length≤9223372036854775807)(hlr:∀ i,(ls.getD i []).length≤9223372036854775807):
    Ctr X 129 [.slice LA ls.length lc] [Rd LA (aB hs (J8 ls)),KidsR hs (J8 ls)] [] (fun v R' H'=>v=.bool (cH ls)∧R'=[]∧H'=[]):=by
 refine co Tryz.func129 ?_;intro β;apply Y 0x192da;refine lp [0] [_] (fun u:Nat=>[(3,.int .i64 (u:Int))]) (kz [_,_]) nz (fun u=>u≤ls.length∧∀ i,i<u→jA ls.length i (ls.getD i [])=true) (fun u=>ls.length-u) 0 ⟨Nat.zero_le _,bA⟩ (lk [0,1] []) ?_;apply Y 0xf0e;intro u hu hu2;apply Zu 0x786c4<;>intro
 ·apply Y 0x449;have hrl:=hlr u;apply Y 0x1968;refine lp [0,3] [_,_] (fun j:Nat=>[(4,.int .i64 (j:Int))]) (kz [_,_]) nz (fun j=>j≤(ls.getD u []).length∧∀ i,i<j→¬jF ls.length u (ls.getD u []) i) (fun j=>(ls.getD u []).length-j) 0 ⟨Nat.zero_le _,bA⟩ (lk [0,1] []) ?_;apply Y 0xf0e;intro j hj hj2;apply Zu 0x783100fe90f6c4<;>intro
  ·apply Y 0x3100fe90f5849;refine sp (ae (k:=j) rfl rfl rfl rfl rfl rfl rfl oe ((Src.kid 1 rfl qg (u) qM).cast (dT _)) ow) ?_;apply Zu 0x9f1f6c1362f<;>intro
   ·apply Y 0x1bca8a89d2b5a8;refine C.cond rfl (fun _=>?_) (fun h=>by cases h);apply Y 0xd40f4;intro hN;exact Zm 0xf60f4bab58eab5a68
   apply Y 0xc8b82c;refine L.bool 36 rfl (imp of_decide_eq_true ?_) (imp of_decide_eq_false ?_)<;>intro
   ·apply Y 0x1bca8a89d2b;refine C.cond rfl (fun _=>?_) (fun h=>by cases h);apply Y 0xd40f4;intro hN;exact Zm 0xf60f4bab58eab5a68
   apply Y 0xc8b86a;refine L.bool 41 rfl (imp ey ?_) (imp ew ?_)<;>intro
   ·apply Y 0x1bca8a8a8;refine C.cond rfl (fun _=>?_) (fun h=>by cases h);apply Y 0xd40f4;intro hN;exact Zm 0xf60f4bab58eab5a68
   apply Zu 0x801f6a2c<;>intro
   ·apply Y 0x7c0eb8100f7e90fb82c;refine sp (ae (k:=(j-1)) rfl rfl rfl rfl rfl rfl oe oe ((Src.kid 1 rfl qg (u) qM).cast (dT _)) ow) ?_;apply Zu 0x782c362f7<;>intro
    ·apply Y 0xd40f4;intro hN;exact Zm 0xf60f4bab58eab5a68
    apply Y 0x2a1f;intro hN;exact Zm 0x222f3ad9
   apply Y 0x2a1f;intro hN;apply Y 0x16abca8a8;refine C.cond rfl (fun h=>by cases h) (fun _=>?_);exact Zm 0x222f3ad9
  apply Y 0x3a64e;refine QE.round (u+1) (by exact ⟨by omega,bK hu2 (rL (fun i hi=>hj2 i oe))⟩) oe (lk [0,1] [])
 apply Y 0x39f969;exact ⟨congrArg Value.bool ((rJ (fun i hi=>hu2 i oe)).symm),rfl,rfl⟩
theorem Pw (LA:Option Addr)(ls:List (List Int))(lc:Nat)(hs:List Hd)(hh:hs.length=ls.length)(hll:ls.length≤9223372036854775807)(hlr:∀ i,(ls.getD i []).length≤9223372036854775807)(dn sn:List Int)(DA SA:Option Addr)(dc sc t:Nat)(hdn:dn.length≤1000000)(hsn:sn.length≤1000000)(ht:t≤1000000):
    Ctr X 203 [.slice LA ls.length lc,.slice DA dn.length dc,.slice SA sn.length sc,.int .i64 (t:Int)] [Rd LA (aB hs (J8 ls)),KidsR hs (J8 ls),Rd DA (I64 dn),Rd SA (I64 sn)] [] (fun v R' H'=>v=.bool (C3 ls dn sn t)∧R'=[]∧H'=[]):=by
 refine co Tryz.func203 ?_;intro β;apply Y 0x192da;refine lp [0,1,2,3] [_,_,_,_] (fun u:Nat=>[(9,.int .i64 (u:Int))]) (kz [_,_,_,_]) nz (fun u=>u≤ls.length∧∀ i,i<u→(decide (i=t)|| !(ls.getD i []).contains (t:Int)||dn.contains (i:Int))=true) (fun u=>ls.length-u) 0 ⟨Nat.zero_le _,bA⟩ (lk [0,1,2,3] []) ?_;apply Y 0xf0e;intro u hu hu2;apply Zu 0xef0fc8584<;>intro
 ·apply Y 0xb86a;refine an (Bv SA sn sc (t:Int) oe) ?_;apply Zu 0xe916a29<;>intro hc19
  ·have hst:sn.contains (t:Int)=false:=QV;apply Y 0x55849;refine L.bool 25 rfl (imp tf ?_) (imp tg ?_)<;>intro
   ·have hne:decide (u=t)=false:=decide_eq_false oe;apply Y 0xb8100f7e90fb86a;refine L.call (js:=[]) (js':=[]) (Bv (hs.getD u (none,0)).1 (ls.getD u []) (hs.getD u (none,0)).2 (t:Int) (hlr u)) rfl rfl rfl ob ⟨((Has.kid 1 rfl qg (u) qM).cast (dT _)),trivial⟩ rfl ?_;apply Y 0x529;refine L.bool 33 rfl ?_ ?_<;>intro hg33
    ·apply Y 0xb86a;refine an (Bv DA dn dc (u:Int) oe) ?_;apply Zu 0xe916a29<;>intro hc38
     ·have hx:(decide (u=t)|| !(ls.getD u []).contains (t:Int)||dn.contains (u:Int))=false:=by
       have h2:dn.contains (u:Int)=false:=oaZ;rw [hne,hg33,h2]
       rfl
      apply Y 0x4babf9;exact ⟨congrArg Value.bool ((II hst oe hx).symm),rfl,rfl⟩
     have hx:(decide (u=t)|| !(ls.getD u []).contains (t:Int)||dn.contains (u:Int))=true:=by
      first
       |exact hx
       |(have h2:dn.contains (u:Int)=true:=oaZ;rw [h2];simp)
     exact Zm 0x421f3ad9
    have hx:(decide (u=t)|| !(ls.getD u []).contains (t:Int)||dn.contains (u:Int))=true:=by rw [hg33];simp
    apply Y 0x1a8;refine C.cond rfl (fun h=>by cases h) (fun _=>?_);exact Zm 0x421f3ad9
   have hx:(decide (u=t)|| !(ls.getD u []).contains (t:Int)||dn.contains (u:Int))=true:=by rw [decide_eq_true (show u=t by omega)];rfl
   apply Y 0x19dbca8;refine C.cond rfl (fun h=>by cases h) (fun _=>?_);exact Zm 0x421f3ad9
  have hst:sn.contains (t:Int)=true:=QV;apply Y 0x39f969;exact ⟨congrArg Value.bool ((IH hst).symm),rfl,rfl⟩
 apply Y 0x1a8;refine C.cond rfl (fun h=>by cases h) (fun _=>?_);apply Y 0x39f969;exact ⟨congrArg Value.bool ((Ff (fun i hi=>hu2 i oe)).symm),rfl,rfl⟩
theorem Ph (A:Option Addr)(l:List Nat)(c:Nat)(n:Int)(hl:l.length≤9223372036854775807):Ctr X 133 [.slice A l.length c,.int .i64 n] [Rd A (I64 (NI l))] [] (fun v R' H'=>v=.bool ((NI l).contains n)∧R'=[]∧H'=[]):=by
 have:=Bv A (NI l) c n obH
 rwa [bb] at this
theorem Pv (LA:Option Addr)(ls:List (List Int))(lc:Nat)(hs:List Hd)(hh:hs.length=ls.length)(hll:ls.length≤9223372036854775807)(hlr:∀ i,(ls.getD i []).length≤9223372036854775807)(dn:List Nat)(sn:List Int)(DA SA:Option Addr)(dc sc t:Nat)(hdn:dn.length≤1000000)(hsn:sn.length≤1000000)(ht:t≤1000000):Ctr X 203 [.slice LA ls.length lc,.slice DA dn.length dc,.slice SA sn.length sc,.int .i64 (t:Int)] [Rd LA (aB hs (J8 ls)),KidsR hs (J8 ls),Rd DA (I64 (NI dn)),Rd SA (I64 sn)] [] (fun v R' H'=>v=.bool (C3 ls (NI dn) sn t)∧R'=[]∧H'=[]):=by
 have:=Pw LA ls lc hs hh hll hlr (NI dn) sn DA SA dc sc t (by rw [bb];exact hdn) hsn ht
 rwa [bb] at this
theorem BH (LA:Option Addr)(ls:List (List Int))(lc:Nat)(hs:List Hd)(hh:hs.length=ls.length)(hll:ls.length≤9223372036854775807)(hlr:∀ i,(ls.getD i []).length≤9223372036854775807)(hr:cH ls=true)(hn:ls.length≤60)(sn:List Int)(SA:Option Addr)(sc:Nat)(hsn:sn.length≤1000000):
    Ctr X 131 [.slice LA ls.length lc,.slice SA sn.length sc] [Rd LA (aB hs (J8 ls)),KidsR hs (J8 ls),Rd SA (I64 sn)] [] (fun v R' H'=>∃ (A:Option Addr) (c:Nat),v=.slice A (frs ls.length (rdP ls) (fun t=>sn.contains (t:Int)) ls.length).length c∧R'=[]∧H'=[Own 3 1 A (frs ls.length (rdP ls) (fun t=>sn.contains (t:Int)) ls.length).length c (I64 (NI (frs ls.length (rdP ls) (fun t=>sn.contains (t:Int)) ls.length)))]):=by
 refine co Tryz.func131 ?_;intro β;apply Y 0x7a212;intro A8;apply Y 0x19228;refine lp [] [] (fun q:Nat×Option Addr×Nat=>[(0,.slice LA ls.length lc),(1,.slice SA sn.length sc),(5,.slice q.2.1 (frs ls.length (rdP ls) (fun t=>sn.contains (t:Int)) q.1).length q.2.2),(6,.int .i64 (q.1:Int))]) (kz [_,_,_]) (fun q=>[Own 3 1 q.2.1 (frs ls.length (rdP ls) (fun t=>sn.contains (t:Int)) q.1).length q.2.2 (I64 (NI (frs ls.length (rdP ls) (fun t=>sn.contains (t:Int)) q.1)))]) (fun q=>q.1≤ls.length) (fun q=>ls.length-q.1) (0,A8,0) (Nat.zero_le _) (lk [0,1,2] [0]) ?_;apply Y 0xb1e;intro k A c hk
 dsimp only at hk ⊢;apply Zu 0x786c4<;>intro
 ·apply Y 0x449;have hfl:=Iq (n:=ls.length) (p:=rdP ls) (st:=fun t=>sn.contains (t:Int)) k;apply Y 0x1968;refine lp [] [] (fun t:Nat=>[(0,.slice LA ls.length lc),(1,.slice SA sn.length sc),(5,.slice A (frs ls.length (rdP ls) (fun t=>sn.contains (t:Int)) k).length c),(6,.int .i64 (k:Int)),(7,.int .i64 (t:Int))]) (kz [_,_,_]) (fun t=>[Own 3 1 A (frs ls.length (rdP ls) (fun t=>sn.contains (t:Int)) k).length c (I64 (NI (frs ls.length (rdP ls) (fun t=>sn.contains (t:Int)) k)))]) (fun t=>∀ i,i<t→tZ ls.length (rdP ls) (fun t=>sn.contains (t:Int)) (frs ls.length (rdP ls) (fun t=>sn.contains (t:Int)) k) i=false) (fun t=>ls.length-t) 0 bA (lk [0,1,2] [0]) ?_;intro t hno;apply Zu 0x786c4<;>intro
  ·apply Y 0x449;have hnc:=HM (sn:=sn) (out:=(frs ls.length (rdP ls) (fun t=>sn.contains (t:Int)) k)) hr (t:=t) oe;apply Y 0x3b;refine an (Ph A (frs ls.length (rdP ls) (fun t=>sn.contains (t:Int)) k) c (t:Int) oe) ?_;apply Y 0x529;refine L.bool 25 rfl ?_ ?_<;>intro hg25
   ·have hi:(NI (frs ls.length (rdP ls) (fun t=>sn.contains (t:Int)) k)).contains (t:Int)=false:=by simpa using hg25
    apply Y 0xb86a2c;refine an (Pv LA ls lc hs hh hll hlr (frs ls.length (rdP ls) (fun t=>sn.contains (t:Int)) k) sn A SA c sc t oe hsn oe) ?_;apply Zu 0xe9129<;>intro hc31
    ·have hx:tZ ls.length (rdP ls) (fun t=>sn.contains (t:Int)) (frs ls.length (rdP ls) (fun t=>sn.contains (t:Int)) k) t=true:=by rw [hnc,hi,hc31];rfl
     apply Y 0x7a58;intro A34;apply Y 0x520f;intro A35 cc35;apply Y 0x66e1;refine lR rfl ?_;apply Y 0x3abde;have he:=EL hno oe hx;refine QE.round (i:=(k,A,c)) ((k+1,A35,cc35)) ou ou (by exact lk [0,1,2] [0] ⟨rfl,rfl,OJ,rfl,trivial⟩ (hh:=⟨(congrArg some (ay OJ O4)),trivial⟩))
    have hx:tZ ls.length (rdP ls) (fun t=>sn.contains (t:Int)) (frs ls.length (rdP ls) (fun t=>sn.contains (t:Int)) k) t=false:=by
     first
      |exact hx
      |(rw [hnc,hi,hc31];rfl)
    exact Zm 0x322f3ad9
   have hx:tZ ls.length (rdP ls) (fun t=>sn.contains (t:Int)) (frs ls.length (rdP ls) (fun t=>sn.contains (t:Int)) k) t=false:=by
    have hi:(NI (frs ls.length (rdP ls) (fun t=>sn.contains (t:Int)) k)).contains (t:Int)=true:=by simpa using hg25
    rw [hnc,hi]
    rfl
   apply Y 0x1fa;refine C.cond rfl (fun h=>by cases h) (fun _=>?_);exact Zm 0x322f3ad9
  apply Y 0x3a64e;have he:=EM (fun i hi=>hno i oe);refine QE.round (i:=(k,A,c)) ((k+1,A,c)) ou ou (by exact lk [0,1,2] [0] ⟨rfl,rfl,Qe,rfl,trivial⟩ (hh:=⟨(congrArg some OR),trivial⟩))
 apply Y 0x20e7c69;obtain rfl:k=ls.length:=oe;exact Zm 0xd6e
theorem Dm (f n:Nat):
    Ctr X 130 [.int .i64 (f:Int),.int .i64 (n:Int),.int .i64 ((0:Nat):Int)] [] [] (fun v R' H'=>∃ (Q:Option Addr) (qc:Nat) (qs:List Hd),v=.slice Q (stL 0 f n).length qc∧R'=[KidsR qs (J8 (NL (stL 0 f n)))]∧H'=[Own 31 1 Q (stL 0 f n).length qc (aB qs (J8 (NL (stL 0 f n))))]∧qs.length=(stL 0 f n).length):=by
 refine co Tryz.func130 ?_;intro β;apply Zu 0x40e2dda<;>intro hc13
 ·apply Y 0x7a2;intro A14;apply Y 0x7a;intro A15;apply Y 0x4a;refine qfz 0 [1] ?_;refine QE.more (r:=KidsR [] []) (Has.kids0) ?_;refine QE.more (r:=KidsR [(A14,0)] (J8 (NL [[]]))) (ea (hs:=[]) (vss:=[]) 0 1 0 rfl rfl rfl) ?_;refine qrt [0] [0] [_] rfl rt ?_;exact ⟨A15,1,[(A14,0)],rfl,rfl,rfl,rfl⟩
 exact (hc13 rfl).elim
theorem Dk (k:Nat)(hk:k≤100)(ih:∀ (f n:Nat),n≤16→Ctr X 130 [.int .i64 (f:Int),.int .i64 (n:Int),.int .i64 (k:Int)] [] [] (fun v R' H'=>∃ (Q:Option Addr) (qc:Nat) (qs:List Hd),v=.slice Q (stL k f n).length qc∧R'=[KidsR qs (J8 (NL (stL k f n)))]∧H'=[Own 31 1 Q (stL k f n).length qc (aB qs (J8 (NL (stL k f n))))]∧qs.length=(stL k f n).length))(f n:Nat)(hn:n≤16):
    Ctr X 130 [.int .i64 (f:Int),.int .i64 (n:Int),.int .i64 ((k+1:Nat):Int)] [] [] (fun v R' H'=>∃ (Q:Option Addr) (qc:Nat) (qs:List Hd),v=.slice Q (stL (k+1) f n).length qc∧R'=[KidsR qs (J8 (NL (stL (k+1) f n)))]∧H'=[Own 31 1 Q (stL (k+1) f n).length qc (aB qs (J8 (NL (stL (k+1) f n))))]∧qs.length=(stL (k+1) f n).length):=by
 refine co Tryz.func130 ?_;intro β;apply Zu 0x40e2dda<;>intro
 ·omega
 apply Y 0x7a2e8;intro A16;apply Y 0x2f0f194828;refine lp [] [] (fun q:Nat×Option Addr×Nat×List Hd=>[(0,.int .i64 (f:Int)),(1,.int .i64 (n:Int)),(2,.int .i64 ((k+1:Nat):Int)),(7,.slice q.2.1 (stP k f n q.1).length q.2.2.1),(8,.int .i64 ((f+q.1:Nat):Int))]) (fun q=>[KidsR q.2.2.2 (J8 (NL (stP k f n q.1)))]) (fun q=>[Own 31 1 q.2.1 (stP k f n q.1).length q.2.2.1 (aB q.2.2.2 (J8 (NL (stP k f n q.1))))]) (fun q=>q.1≤n-f∧q.2.2.2.length=(stP k f n q.1).length) (fun q=>n-f-q.1) (0,A16,0,[]) ⟨Nat.zero_le _,rfl⟩ (lk [0] [0]) ?_;apply Y 0xaee;intro d Q qc qs hd hqs
 dsimp only at hd hqs ⊢;apply Zu 0x78584<;>intro
 ·apply Y 0x449;have hdn:d<n-f:=oe;have hps:=zc k f n d oe;have hp2:=eE (f:=f) hn;apply Y 0x8a;refine sp (Ev.cast (u:=.int .i64 ((f+d+1:Nat):Int)) (Ev.add rfl rfl oe oe) (congrArg (Value.int .i64) oe)) ?_;apply Y 0x5;refine sp (Ev.cast (u:=.int .i64 ((k:Nat):Int)) (Ev.sub rfl rfl oe oe) (congrArg (Value.int .i64) oe)) ?_;refine a8 (ih (f+d+1) n hn) ?_;apply Y 0x9ee;intro S sc ss hss;apply Y 0x19688d28;obtain ⟨Q0,hQ0⟩:∃ x,x=Q:=⟨_,rfl⟩;obtain ⟨qc0,hqc0⟩:∃ x,x=qc:=⟨_,rfl⟩;obtain ⟨qs0,hqs0⟩:∃ x,x=qs:=⟨_,rfl⟩;refine lp [] [] (fun q:Nat×Option Addr×Nat×List Hd=>[(0,.int .i64 (f:Int)),(1,.int .i64 (n:Int)),(2,.int .i64 ((k+1:Nat):Int)),(8,.int .i64 ((f+d:Nat):Int)),(9,.slice S (stL k (f+d+1) n).length sc),(7,.slice q.2.1 (stQ k f n d q.1).length q.2.2.1),(10,.int .i64 (q.1:Int))]) (kzz [_,_] [] fun q=>[KidsR q.2.2.2 (J8 (NL (stQ k f n d q.1)))]) (fun q=>[Own 31 1 q.2.1 (stQ k f n d q.1).length q.2.2.1 (aB q.2.2.2 (J8 (NL (stQ k f n d q.1))))]) (fun q=>q.1≤(stL k (f+d+1) n).length∧q.2.2.2.length=(stQ k f n d q.1).length) (fun q=>(stL k (f+d+1) n).length-q.1) (0,Q,qc,qs) ⟨Nat.zero_le _,by dsimp only;rw [jH];exact hqs⟩ (by exact lk [0,1,2] [0] ⟨rfl,rfl,rfl,rfl,rfl,(by dsimp only;rw [jH];rfl),rfl,trivial⟩ (hr:=⟨rfl,rfl,(congrArg some (by dsimp only;rw [jH])),trivial⟩) (hh:=⟨(congrArg some (by dsimp only;rw [jH])),trivial⟩)) ?_;apply Y 0xaee;intro i Q qc qs hi hqs
  dsimp only at hi hqs ⊢;apply Zu 0x786c4<;>intro
  ·apply Y 0x449;have hsl:=ni k (f+d+1) n;have hp3:=eE (f:=f+d+1) hn;have hli:=ze (k:=k) (f:=f+d+1) (n:=n) (i:=i) oe;have hql:=G0 (k:=k) (i:=i) (show d+1≤n-f by omega);apply Y 0x7a8a;intro A36;apply Y 0x962f652f5;refine L.append (j:=1) rfl rfl rfl rfl ob rfl rfl rfl rfl ((Src.kid 1 rfl qZ (i) oa5).cast (dT _)) oZ (dk _) oe oV rfl (fun A41 cc41=>?_);apply Y 0x14e1;have he:=Dq (k:=k) (f:=f) (n:=n) (d:=d) (i:=i) oe;have hlen:((NL (stL k (f+d+1) n)).getD i []).length=((stL k (f+d+1) n).getD i []).length:=by rw [tm oe,bb]
   apply Y 0x7a3b;intro A44;refine L.append (j:=0) rfl rfl rfl rfl ob rfl rfl rfl rfl (Src.o 1 rfl) rfl (by intro v hv;simp at hv;subst hv;rfl) oe Qa rfl (fun A45 cc45=>?_);apply Y 0x3a90e;refine QE.more (r:=Rd A41 (I64 (NI ((f+d)::((stL k (f+d+1) n).getD i []))))) ((Has.r 0 rfl).cast (by rw [show NI ((f+d)::((stL k (f+d+1) n).getD i []))=((f+d:Nat):Int)::NI ((stL k (f+d+1) n).getD i []) from rfl,← tm oe];rfl)) ?_;refine QE.more (r:=KidsR (qs++[(A41,cc41)]) (J8 (NL (stQ k f n d i))++[I64 (NI ((f+d)::((stL k (f+d+1) n).getD i [])))])) (ea 4 0 cc41 rfl rfl (by rw [bW,lT];exact hqs)) ?_;refine QE.round (i:=(i,Q,qc,qs)) ((i+1,A45,cc45,qs++[(A41,cc41)])) (by exact ⟨by dsimp only;omega,by dsimp only;rw [he,List.length_append,List.length_append,hqs];rfl⟩) ou (by exact lk [3,4,0] [0] ⟨rfl,rfl,rfl,rfl,rfl,OJ,rfl,trivial⟩ (hr:=⟨rfl,rfl,(congrArg some (by dsimp only;rw [he,GI,show NL [(f+d)::((stL k (f+d+1) n).getD i [])]=[NI ((f+d)::((stL k (f+d+1) n).getD i []))] from rfl,← pD])),trivial⟩) (hh:=⟨(congrArg some (ay OJ (by dsimp only;rw [he,GI,show NL [(f+d)::((stL k (f+d+1) n).getD i [])]=[NI ((f+d)::((stL k (f+d+1) n).getD i []))] from rfl,← kC (by rw [lT];exact hqs),bb,List.length_cons,hlen,Nat.add_comm 1]))),trivial⟩))
  apply Y 0x8a73e64e;refine sp (Ev.cast (u:=.int .i64 ((f+(d+1):Nat):Int)) (Ev.add rfl rfl oe oe) (congrArg (Value.int .i64) oe)) ?_;apply Y 0x90e;have he:=G1 (k:=k) (f:=f) (n:=n) (d:=d) (i:=i) oe;refine QE.round (i:=(d,Q0,qc0,qs0)) ((d+1,Q,qc,qs)) (by exact ⟨by dsimp only;omega,by dsimp only;rw [← he];exact hqs⟩) ou (by exact lk [2] [0] ⟨rfl,rfl,rfl,(by dsimp only;rw [← he];rfl),rfl,trivial⟩ (hr:=⟨(congrArg some OR),trivial⟩) (hh:=⟨(congrArg some OR),trivial⟩))
 apply Y 0x7c69;refine qrt [0] [0] [_] rfl rt ?_;obtain rfl:d=n-f:=oe;rw [tG] at*;exact ⟨Q,qc,qs,rfl,rfl,rfl,hqs⟩
theorem yX:∀ (k:Nat),k≤100→∀ (f n:Nat),n≤16→Ctr X 130 [.int .i64 (f:Int),.int .i64 (n:Int),.int .i64 (k:Int)] [] [] (fun v R' H'=>∃ (Q:Option Addr) (qc:Nat) (qs:List Hd),v=.slice Q (stL k f n).length qc∧R'=[KidsR qs (J8 (NL (stL k f n)))]∧H'=[Own 31 1 Q (stL k f n).length qc (aB qs (J8 (NL (stL k f n))))]∧qs.length=(stL k f n).length)
  |0,_,f,n,_=>Dm f n
  |k+1,hk,f,n,hn=>Dk k oe (fun f n hn=>yX k oe f n hn) f n hn
end Go.Proofs.YtbpddeiogcgegaaGreat
