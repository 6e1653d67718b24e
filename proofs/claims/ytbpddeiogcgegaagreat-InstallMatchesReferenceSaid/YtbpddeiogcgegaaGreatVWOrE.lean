/-
  Part of a proof.
-/
import Derived.Lib.Overlaps
import Derived.Lib.AppendZeros
import Derived.Test.YtbpddeiogcgegaaGreatVWOrA
set_option maxHeartbeats 0
set_option maxRecDepth 4000
set_option linter.all false
namespace Go.Proofs.YtbpddeiogcgegaaGreat
open Go.Sl
theorem yU (LA:Option Addr)(ls:List (List Int))(lc:Nat)(hs:List Hd)(hh:hs.length=ls.length)(hll:ls.length≤9223372036854775807)(hlr:∀ i,(ls.getD i []).length≤9223372036854775807):
    Ctr X 77 [.slice LA ls.length lc] [Rd LA (ay hs (J8 ls)),KidsR hs (J8 ls)] [] (fun v R' H'=>∃ (A B:Option Addr) (c d:Nat),v=.agg (List.toArray [.slice A (EK ls).length c,.slice B (EL ls).length d,.int .i64 (Gc ls)])∧R'=[Rd A (I64 (NI (EK ls))),Rd B (I64 (NI (EL ls)))]∧H'=[]):=by
 refine co Tryz.func77 ?_;intro β;apply Y 0x987;intro A2;apply Y 0x65888;refine al (nT LA ls lc hs hh hll hlr) ?_;apply Zu 0x1a1a8<;>intro hc9
 ·have hrb:cw ls=false:=obf;apply Y 0xb01fc30fc30f599bcb;obtain ⟨e1,e2,e3⟩:=l3 (yl (.inl hrb));apply Zu 0x6f1f
  ·rw [e1,e2,e3];first|rw [if_pos hrb]|rw [if_neg (by rw [hrb];decide)]
   exact Zm 0x2
  exact Zm 0x2fce
 ·have hrb:cw ls=true:=obf;apply Zu 0x79e85899<;>intro
  ·apply Y 0xb01fc30fc30f599bcb;have hbig:16<ls.length:=oe;obtain ⟨e1,e2,e3⟩:=l3 (yl (.inr hbig));apply Zu 0x6f1f
   ·rw [e1,e2,e3];first|rw [if_pos hrb]|rw [if_neg (by rw [hrb];decide)]
    exact Zm 0x2
   exact Zm 0x2fce
  ·apply Y 0xad9d;refine lp [0,2] [_,_] (fun k:Nat=>[(3,.int .i64 (k:Int))]) (kz [_,_]) (kz [_]) (fun k=>k≤ls.length+1∧iJ (fun k=>(stL k 0 ls.length).find? (mJ ls.length (rdP ls))) k=none) (fun k=>ls.length+1-k) 0 ⟨Nat.zero_le _,rfl⟩ (lk [0,1] [0]) ?_;apply Y 0xa1e;intro k hk hsr;apply Zu 0xe9bd<;>intro
   ·apply Y 0xb8789;refine aJ (xB k oe 0 ls.length oe) ?_;apply Y 0xcee;intro S sc ss hss;apply Y 0xdb49;have hsl:=lS k 0 ls.length;have hp3:=eh (f:=0) (show ls.length≤16 by omega);apply Y 0xba168;refine lp [0,2,3,4] [_,_,_,_] (fun i:Nat=>[(5,.int .i64 (i:Int))]) (kz [_,_,_,_]) (kz [_]) (fun i=>i≤(stL k 0 ls.length).length∧∀ j,j<i→mJ ls.length (rdP ls) ((stL k 0 ls.length).getD j [])=false) (fun i=>(stL k 0 ls.length).length-i) 0 ⟨Nat.zero_le _,br⟩ (lk [0,1,2,3] [0]) ?_;apply Y 0xa1e;intro i hi hi2;apply Zu 0xe9bd<;>intro
    ·apply Y 0x589;have hni:=xI (k:=k) (f:=0) (n:=ls.length) (i:=i) oe;apply Y 0x6f3fbd3fb868;refine L.call (js:=[]) (js':=[0]) (z7 LA ls lc hs hh hll hlr hrb oe ((NL (stL k 0 ls.length)).getD i []) (ss.getD i (none,0)).1 (ss.getD i (none,0)).2 (by rw [hni];omega)) rfl rfl rfl ob ⟨(Has.r 2 rfl),(Has.r 3 rfl),((Has.kid 1 rfl Qe (i) oba).cast (dt _)),trivial⟩ rfl ?_;apply Y 0x19;intro A36 c36;have hfr:(frs ls.length (rdP ls) (fun t=>((NL (stL k 0 ls.length)).getD i []).contains (t:Int)) ls.length)=(frs ls.length (rdP ls) (fun t=>((stL k 0 ls.length).getD i []).contains t) ls.length):=jZ (fun t=>Pz oe t) ls.length;apply Zu 0xece82d1<;>intro
     ·have hyes:mJ ls.length (rdP ls) ((stL k 0 ls.length).getD i [])=true:=iX.2 (by rw [← hfr];omega);apply Y 0xb868db5;refine sp (ae (k:=i) rfl rfl rfl rfl rfl rfl rfl oe (Src.r 1 rfl) qN) ?_;refine sp (Ev.load rfl rfl rfl (Src.r 1 rfl) (cv obE ob3)) ?_;apply Y 0xdc12e1be2be7d9bfa;refine QE.more (r:=Rd (ss.getD i (none,0)).1 (I64 ((NL (stL k 0 ls.length)).getD i []))) (((Has.kid 2 rfl Qe (i) oba).cast (dt _))) ?_;apply Y 0xb01f;have hT:ym ls=some ((stL k 0 ls.length).getD i []):=by
       rw [yj hrb oe]
       exact vK hsr (Ac (d:=[]) hi2 oe hyes) oe
      obtain ⟨e1,e2,e3⟩:=CF hrb hT;have hnl:(NL (stL k 0 ls.length)).getD i []=NI ((stL k 0 ls.length).getD i []):=re oe;refine ⟨A36,(ss.getD i (none,0)).1,c36,(ss.getD i (none,0)).2,?_,?_,rfl⟩
      ·rw [e1,e2,e3,← hfr,show ((stL k 0 ls.length).getD i []).length=((NL (stL k 0 ls.length)).getD i []).length from by rw [hnl,bp]];exact Zm 0x2
      rw [e1,e2,← hfr,← hnl];exact Zm 0x2
     have hno:mJ ls.length (rdP ls) ((stL k 0 ls.length).getD i [])=false:=G0.2 (by rw [← hfr];omega);apply Y 0x8a5a;refine QE.round (i+1) (by exact ⟨by omega,bB hi2 hno⟩) oe (lk [0,1,2,3] [1])
    apply Y 0x8a66e;refine QE.round (k+1) (by exact ⟨by omega,xL hsr (Dx (d:=[]) (fun j hj=>hi2 j oe))⟩) oe (lk [2,3] [0])
   ·apply Y 0xb01fc30fc30fd89bcba9;obtain ⟨e1,e2,e3⟩:=l3 (by
     rw [yj hrb oe];have:k=ls.length+1:=oe;rw [this] at hsr
     exact hsr)
    apply Zu 0x6f1f
    ·rw [e1,e2,e3];first|rw [if_pos hrb]|rw [if_neg (by rw [hrb];decide)]
     exact Zm 0x2
    exact Zm 0x2fce
theorem Dg (x:Po)(size:Int)(hs1: -100000≤size-x.ln)(hs2:size-x.ln≤100000):
    Ctr X 312 [.agg (List.toArray x.cells),.int .i64 size] [] [] (fun v R' H'=>v=.bool (zL x size)∧R'=[]∧H'=[]):=by
 refine co Tryz.func312 ?_;intro β;apply Y 0x4a;intro A2;apply Y 0x48f87c49;refine L.bool 8 rfl (imp of_decide_eq_true ?_) (imp of_decide_eq_false ?_)<;>intro
 ·exact Zm 0x6e2fd9e84c1e4b2eb91c
 exact Zm 0x6e2fd9389a39
theorem CC (x:Po)(size:Int)(hs1: -100000≤size-x.ln)(hs2:size-x.ln≤100000):
    Ctr X 310 [.agg (List.toArray x.cells),.int .i64 size] [] [] (fun v R' H'=>v=.bool (zL x size&&decide ((x.b.toNat:Int)=0))∧R'=[]∧H'=[]):=by
 refine co Tryz.func310 ?_;intro β;apply Y 0x4a;intro A2;apply Zu 0x481f6a8b83f6c3e7c49<;>intro
 ·apply Zu 0x571fb841c<;>intro
  ·apply Y 0xf3e4dd9e8b91c
   simp [*]
   try omega
  apply Y 0xf3e4dd93839
  simp [*]
  try omega
 apply Y 0xf3e4dd938ea9a
 simp [*]
 try omega
theorem CB (x:Po)(size:Int)(hs1: -100000≤size-x.ln)(hs2:size-x.ln≤100000):
    Ctr X 314 [.agg (List.toArray x.cells),.int .i64 size] [] [] (fun v R' H'=>v=.bool (zL x size&&decide ((x.b.toNat:Int)=0)&&decide (x.ln=0))∧R'=[]∧H'=[]):=by
 refine co Tryz.func314 ?_;intro β;apply Y 0x4a;intro A2;apply Zu 0x481f6a8b83f6c3e7c49<;>intro
 ·apply Zu 0x571fb841c<;>intro
  ·apply Y 0xf3e4dd9e84b2eb91c
   simp [*]
   try omega
  apply Y 0xf3e4dd938dd39
  simp [*]
  try omega
 apply Y 0xf3e4dd938ddea9a
 simp [*]
 try omega
theorem Cz (x:Po)(size:Int)(_hs1: -100000≤size-x.ln)(_hs2:size-x.ln≤100000):
    Ctr X 317 [.agg (List.toArray x.cells),.int .i64 size] [] [] (fun v R' H'=>v=.bool (decide (x.fr=0))∧R'=[]∧H'=[]):=by
 refine co Tryz.func317 ?_;intro β;apply Y 0x4a;intro A2;apply Zu 0x413f48f87c49<;>intro
 ·apply Y 0xf3e4dd9e8b91c
  simp [*]
  try omega
 apply Y 0xf3e4dd93839
 simp [*]
 try omega
theorem Cy (x:Po)(size:Int)(_hs1: -100000≤size-x.ln)(_hs2:size-x.ln≤100000):
    Ctr X 320 [.agg (List.toArray x.cells),.int .i64 size] [] [] (fun v R' H'=>v=.bool (decide (x.fr=0)&&decide ((x.b.toNat:Int)=0)&&decide (x.ln=0))∧R'=[]∧H'=[]):=by
 refine co Tryz.func320 ?_;intro β;apply Y 0x4a;intro A2;apply Zu 0x413f48f87c49<;>intro
 ·apply Zu 0x571fb841c<;>intro
  ·apply Y 0xf3e4dd9e84b2eb91c
   simp [*]
   try omega
  apply Y 0xf3e4dd938dd39
  simp [*]
  try omega
 apply Y 0xf3e4dd938ddea9a
 simp [*]
 try omega
theorem CD (size:Int):
    Ctr X 323 [.agg (List.toArray []),.int .i64 size] [] [] (fun v R' H'=>v=.bool false∧R'=[]∧H'=[]):=by
 refine co Tryz.func323 ?_;intro β;apply Y 0x4a;intro A2;exact Zm 0x53ed9c91
theorem Ih (x:Po)(i:Nat)(h1:0≤x.fr+(i:Int))(h2:x.fr+(i:Int)≤100000)(_h3:0≤x.fr):
    Ctr X 311 [.agg (List.toArray x.cells),.int .i64 (i:Int)] [] [] (fun v R' H'=>v=.agg (List.toArray (Sy.cells ⟨true,x.fr+(i:Int),0⟩))∧R'=[]∧H'=[]):=by
 refine co Tryz.func311 ?_;intro β;apply Y 0x4a;intro A2;apply Y 0x98;intro A4;exact Zm 0x53e8ced89bfaca6f868db7b
theorem Ig (x:Po)(i:Nat)(_h1:0≤x.fr+(i:Int))(_h2:x.fr+(i:Int)≤100000)(_h3:0≤x.fr):
    Ctr X 318 [.agg (List.toArray x.cells),.int .i64 (i:Int)] [] [] (fun v R' H'=>v=.agg (List.toArray (Sy.cells ⟨false,0,x.b⟩))∧R'=[]∧H'=[]):=by
 refine co Tryz.func318 ?_;intro β;apply Y 0x4a;intro A2;apply Y 0x98;intro A4;exact Zm 0x53e8ced89bfaf868db7b
theorem Rq (x:Po):
    Ctr X 235 [.agg (List.toArray x.cells)] [] [] (fun v R' H'=>v=.iface (dm x 337 338 339 340 341) (eL x)∧R'=[]∧H'=[]):=by
 refine co Tryz.func235 ?_;intro β;apply Y 0x4a;intro A1;apply Zu 0xecc8ba88f87c549<;>intro hc5
 ·apply Y 0x8b7d38c3e7;have hT:dm x 337 338 339 340 341=337:=oaT;apply Y 0x44e;rw [hT]
  unfold eL;exact Zm 0x2890f
 apply Zu 0xecc8<;>intro hc9
 ·apply Y 0x8b7d38c3e7;have hT:dm x 337 338 339 340 341=338:=oaT;apply Y 0x44e;rw [hT]
  unfold eL;exact Zm 0x2890f
 apply Zu 0xecc8<;>intro hc13
 ·apply Y 0x8b7d38c3e7;have hT:dm x 337 338 339 340 341=339:=oaT;apply Y 0x44e;rw [hT]
  unfold eL;exact Zm 0x2890f
 apply Zu 0xecc8<;>intro hc17
 ·apply Y 0x8b7d38c3e7;have hT:dm x 337 338 339 340 341=340:=oaT;apply Y 0x44e;rw [hT]
  unfold eL;exact Zm 0x2890f
 apply Y 0xd938cb74e5a;have hT:dm x 337 338 339 340 341=341:=by unfold dm;rw [if_neg hc5,if_neg hc9,if_neg hc13,if_neg hc17]
 apply Y 0x44e;rw [hT]
 unfold eL;exact Zm 0x2e40f
theorem F5 (x:Po)(size:Int)(hs1: -100000≤size-x.ln)(hs2:size-x.ln≤100000):∃ f,(∀ w,(method (X.P.types.size+Made.depth) (dm x 337 338 339 340 341) (eL x) "inlay/patch.right").run X.P w=.ok (f,eL x) w)∧Ctr X f [eL x,.int .i64 size] [] [] (fun v R' H'=>v=.bool (bJ x size)∧R'=[]∧H'=[]):=by
 by_cases h1:x.k=1;apply Y 0x542f;intro e1;apply Y 0x650f;intro e2;apply Y 0xfce;refine ⟨310,fun w=>by kernel_rfl,(CC x size hs1 hs2).mono ?_⟩;rintro v R' H' ⟨rfl,h⟩;exact ⟨congrArg Value.bool (by unfold bJ;rw [if_pos h1]),h⟩
 by_cases h2:x.k=2;have e1:dm x 337 338 339 340 341=338:=by unfold dm;rw [if_neg h1,if_pos h2]
 apply Y 0x650f;intro e2;apply Y 0xfce;refine ⟨314,fun w=>by kernel_rfl,(CB x size hs1 hs2).mono ?_⟩;rintro v R' H' ⟨rfl,h⟩;exact ⟨congrArg Value.bool (by unfold bJ;rw [if_neg h1,if_pos h2]),h⟩
 by_cases h3:x.k=3;have e1:dm x 337 338 339 340 341=339:=by unfold dm;rw [if_neg h1,if_neg h2,if_pos h3]
 apply Y 0x650f;intro e2;apply Y 0xfce;refine ⟨317,fun w=>by kernel_rfl,(Cz x size hs1 hs2).mono ?_⟩;rintro v R' H' ⟨rfl,h⟩;exact ⟨congrArg Value.bool (by unfold bJ;rw [if_neg h1,if_neg h2,if_pos h3]),h⟩
 by_cases h4:x.k=4;have e1:dm x 337 338 339 340 341=340:=by unfold dm;rw [if_neg h1,if_neg h2,if_neg h3,if_pos h4]
 apply Y 0x650f;intro e2;apply Y 0xfce;refine ⟨320,fun w=>by kernel_rfl,(Cy x size hs1 hs2).mono ?_⟩;rintro v R' H' ⟨rfl,h⟩;exact ⟨congrArg Value.bool (by unfold bJ;rw [if_neg h1,if_neg h2,if_neg h3,if_pos h4]),h⟩;have e1:dm x 337 338 339 340 341=341:=by unfold dm;rw [if_neg h1,if_neg h2,if_neg h3,if_neg h4]
 have e2:eL x=.agg (List.toArray []):=by unfold eL;rw [if_neg oe]
 apply Y 0xfce;refine ⟨323,fun w=>by kernel_rfl,(CD size).mono ?_⟩;rintro v R' H' ⟨rfl,h⟩;exact ⟨congrArg Value.bool (by unfold bJ;rw [if_neg h1,if_neg h2,if_neg h3,if_neg h4]),h⟩
theorem MU (x:Po)(size:Int)(i:Nat)(hr:bJ x size=true)(hl:(i:Int)<x.ln)(hs:size≤65536)(hi:(i:Int)≤65536):∃ f,(∀ w,(method (X.P.types.size+Made.depth) (dm x 337 338 339 340 341) (eL x) "inlay/patch.symbol").run X.P w=.ok (f,eL x) w)∧Ctr X f [eL x,.int .i64 (i:Int)] [] [] (fun v R' H'=>v=.agg (List.toArray (nw x i).cells)∧R'=[]∧H'=[]):=by
 have hk:(x.k=1∧0≤x.fr∧x.fr≤size-x.ln)∨(x.k=3∧x.fr=0):=by
  unfold bJ zL at hr
  by_cases h1:x.k=1
  ·rw [if_pos h1] at hr
   simp at hr
   exact .inl ⟨h1,hr.1.1,hr.1.2⟩
  rw [if_neg h1] at hr
  by_cases h2:x.k=2
  ·rw [if_pos h2] at hr
   simp at hr;exact Zm 0x18
  rw [if_neg h2] at hr
  by_cases h3:x.k=3
  ·rw [if_pos h3] at hr
   simp at hr
   exact .inr ⟨h3,hr⟩
  rw [if_neg h3] at hr
  by_cases h4:x.k=4
  ·rw [if_pos h4] at hr
   simp at hr;exact Zm 0x18
  rw [if_neg h4] at hr
  cases hr
 apply Y 0x650f;intro e2
 rcases hk with ⟨h1,h2,h3⟩|⟨h1,h2⟩
 ·apply Y 0x542f;intro e1;apply Y 0xfce;refine ⟨311,fun w=>by kernel_rfl,(Ih x i oe oe h2).mono ?_⟩;rintro v R' H' ⟨rfl,h⟩;exact ⟨by unfold nw;rw [if_pos h1],h⟩
 have e1:dm x 337 338 339 340 341=339:=by unfold dm;rw [if_neg oe,if_neg oe,if_pos h1]
 apply Y 0xfce;refine ⟨318,fun w=>by kernel_rfl,(Ig x i oe oe oe).mono ?_⟩;rintro v R' H' ⟨rfl,h⟩;exact ⟨by unfold nw;rw [if_neg oe],h⟩
theorem DQ (lf:Bool)(inn out:Int)(ops:List Po)(OA:Option Addr)(oc:Nat)(hops:ops.length≤9223372036854775807):
    Ctr X 194 [.agg (List.toArray [.bool lf,.int .i64 inn,.int .i64 out,.slice OA ops.length oc])] [Rd OA (bZ ops)] [] (fun v R' H'=>∃ q:Int,v=.tuple #[.int .i64 q,.int .i64 (cG inn out ops)]∧R'=[]∧H'=[]):=by
 refine co Tryz.func194 ?_;intro β;apply Y 0x4a;intro A1;apply Y 0xf8f87c5538;refine sp (Ev.cast (u:=.int .i64 (min inn out)) (Ev.pure rfl) (congrArg (Value.int .i64) Qm)) ?_;apply Zu 0x671f48<;>intro
 ·apply Y 0x1eadd39;refine C.cond rfl (fun _=>?_) (fun h=>by cases h);apply Y 0x120fd5e59c8;intro hE;exact Zm 0x38e
 apply Zu 0xd71fb84111f41c1c<;>intro
 ·apply Y 0x139;refine C.cond rfl (fun _=>?_) (fun h=>by cases h);apply Y 0x120fd5e59c8;intro hE;exact Zm 0x38e
 apply Zu 0xe9b91c<;>intro
 ·apply Y 0x120fd5e59c8;intro hE;exact Zm 0x38e
 apply Y 0xba38f8581f83c;refine lp [1,30,31] [_,_,_] (fun q:Nat×Int=>[(4,.int .i64 q.2),(32,.int .i64 (q.1:Int))]) (kz [_,_]) nz (fun q=>q.1≤ops.length∧0≤q.2∧q.2≤65536∧eO inn out ops=eO inn q.2 (ops.drop q.1)) (fun q=>ops.length-q.1) (0,out) ⟨Nat.zero_le _,by dsimp only;omega,by dsimp only;omega,rfl⟩ (lk [0,1] []) ?_;apply Y 0x2c0f;intro i left hi hl0 hl1 hinv
 dsimp only at hi hl0 hl1 hinv ⊢;apply Zu 0x7920e<;>intro
 ·apply Y 0x98fd1fa80ff989;intro A6;apply Y 0x57b5b6;refine av [_,_,_] ⟨Has.r 0 rfl,Has.r 1 rfl,Has.o 0 rfl,trivial⟩ ?_;refine mq 0 rfl (faR 2) ?_;refine mq 1 rfl (ldR 2) ?_;apply Y 0xededde;refine LM.bool 40 rfl (imp of_decide_eq_true ?_) (imp of_decide_eq_false ?_)<;>intro
  ·have hno:eO inn left (ops.drop i)=false:=kf oe (.inl oe);refine mno 4 ?_;refine mno 5 ?_;refine mno 6 ?_;refine mno 7 ?_;apply Y 0xb5e67e;refine mno 10 ?_;refine mno 11 ?_;apply Y 0x6a6c730f3cdebe3cd42e69cda5e3cde3e;refine C.cond rfl (fun _=>?_) (fun h=>by cases h);apply Y 0x500fd5edc12e59e87;intro hE;exact Zm 0x38e
  refine my 4 rfl (faR 2) ?_;refine my 5 rfl (ldR 2) ?_;refine my 6 rfl (Ev.pure rfl) ?_;refine my 7 rfl (Ev.pure rfl) ?_;apply Y 0xb5e67e;refine LM.bool 46 rfl (imp of_decide_eq_true ?_) (imp of_decide_eq_false ?_)<;>intro
  ·have hno:eO inn left (ops.drop i)=false:=kf oe (.inr (.inl oe));refine mno 10 ?_;refine mno 11 ?_;apply Y 0x6a6c730f3cdebe3cd42e69cda5e3cde3e;refine C.cond rfl (fun _=>?_) (fun h=>by cases h);apply Y 0x500fd5edc12e59e87;intro hE;exact Zm 0x38e
  refine my 10 rfl (aa rfl rfl rfl (Src.r 2 rfl) rfl rfl ob) ?_;refine my 12 rfl (faR 0) ?_;refine my 13 rfl (ldR 0) ?_;apply Y 0x442e69a8d83f4b4e;refine Be (js:=[]) (js':=[0]) (F5 (ops.getD i Po.zero) inn oe oe) rfl rfl rfl rfl ob trivial rfl ?_;apply Zu 0x1a6a6c730f3acebe3a8<;>intro hc53
  ·have hno:eO inn left (ops.drop i)=false:=kf oe (.inr (.inr (by simpa using hc53)));apply Y 0x500fd5edc12e59e87;intro hE;exact Zm 0x38e
  have hright:bJ (ops.getD i Po.zero) inn=true:=by simpa using hc53
  apply Y 0xd0ed1ec1e56eaa2c99;refine QE.round (i:=(i,left)) ((i+1,left-(ops.getD i Po.zero).ln)) (by exact ⟨by dsimp only;omega,by dsimp only;omega,by dsimp only;omega,by dsimp only;rw [hinv,pS oe oe oe hright]⟩) ou (lk [0,1] [])
 apply Zu 0xe958a9<;>intro
 ·have hno:eO inn left (ops.drop i)=false:=by rw [iY oe];exact decide_eq_false oe
  apply Y 0x500fd5e59e8f87;intro hE;exact Zm 0x38e
 apply Y 0xd5ed8e8f83c;have hE:cG inn out ops=0:=by
  unfold cG;exact Zm 0x2b34f
 exact Zm 0x38e
theorem xn (lf:Bool)(inn out:Int)(ops:List Po)(OA:Option Addr)(oc:Nat)(hops:ops.length≤9223372036854775807):
    Ctr X 237 [.agg (List.toArray [.bool lf,.int .i64 inn,.int .i64 out,.slice OA ops.length oc])] [Rd OA (bZ ops)] [] (fun v R' H'=>∃ (A:Option Addr) (c:Nat),v=.tuple #[.slice A (syS inn out ops).length c,.int .i64 (cG inn out ops)]∧R'=[]∧H'=[Own 225 3 A (syS inn out ops).length c (cU (syS inn out ops))]):=by
 refine co Tryz.func237 ?_;intro β;apply Y 0x4a;intro A1;apply Y 0x71e383fc3e7c5538;intro q;apply Zu 0x5dc8e848<;>intro hc17
 ·apply Y 0x59e87;refine QE.nil_own 225 3 ?_;apply Y 0xa2e;have hs:syS inn out ops=[]:=by unfold syS;rw [if_neg hc17]
  rw [hs];exact Zm 0x24e
 obtain ⟨k1,k2,k3,k4,k5,k6⟩:=fT hc17;apply Y 0xc0e3c;refine sp (Ev.cast (u:=.int .i64 ((out.toNat:Nat):Int)) (ldR 0) (congrArg (Value.int .i64) oe)) ?_;refine Bc (m:=out.toNat) rfl rfl rfl rfl rfl obF oe rfl (fun A21=>?_);apply Y 0xba38f8581;refine lp [] [] (fun q:Nat×Option Addr×Nat=>[(1,ag A1 0),(23,.slice OA ops.length oc),(24,.int .i64 (ops.length:Int)),(6,.slice q.2.1 (ah (ops.take q.1)).length q.2.2),(25,.int .i64 (q.1:Int))]) (kz [_,_]) (fun q=>[Own 225 3 q.2.1 (ah (ops.take q.1)).length q.2.2 (cU (ah (ops.take q.1)))]) (fun q=>q.1≤ops.length) (fun q=>ops.length-q.1) (0,A21,out.toNat) (Nat.zero_le _) (lk [0,1] [0]) ?_;apply Y 0x72e;intro i A c hi
 dsimp only at hi ⊢;apply Zu 0x7920e<;>intro
 ·apply Y 0xb72f;intro hop;apply Y 0x98fd1fa80f789;intro A8;apply Y 0x8b2fba1da71a8d83ff4e7886b;intro A0 hA0;apply Y 0x9b2f;intro c0 hc0;refine lp [] [] (fun q:Nat×Option Addr×Nat=>[(1,ag A1 0),(23,.slice OA ops.length oc),(24,.int .i64 (ops.length:Int)),(25,.int .i64 (i:Int)),(6,.slice q.2.1 (ah (ops.take i)++kO (ops.getD i Po.zero) q.1).length q.2.2),(9,.iface (dm (ops.getD i Po.zero) 337 338 339 340 341) (eL (ops.getD i Po.zero))),(32,.int .i64 (ops.getD i Po.zero).ln),(33,.int .i64 (q.1:Int))]) (kz [_,_]) (fun q=>[Own 225 3 q.2.1 (ah (ops.take i)++kO (ops.getD i Po.zero) q.1).length q.2.2 (cU (ah (ops.take i)++kO (ops.getD i Po.zero) q.1))]) (fun q=>(q.1:Int)≤(ops.getD i Po.zero).ln) (fun q=>(ops.getD i Po.zero).ln.toNat-q.1) (0,A,c) ou (by exact lk [0,1] [0] ⟨rfl,rfl,rfl,rfl,Q2,rfl,rfl,rfl,trivial⟩ (hh:=⟨(congrArg some oae),trivial⟩)) ?_;apply Y 0x72e;intro j A c hj
  dsimp only at hj ⊢;apply Zu 0x7920e<;>intro
  ·apply Y 0x5a2fc889;intro hpre;apply Y 0xc72f;intro htot;apply Y 0x422f;intro e1;apply Y 0xb868;refine Be (js:=[]) (js':=[0]) (MU (ops.getD i Po.zero) inn j hop.2.2 oe oe oe) rfl rfl rfl rfl ob trivial rfl ?_;apply Y 0x123fa8;intro A40;apply Y 0xcf2f;intro A41 cc41;apply Y 0xd0ed1e;refine QE.round (i:=(j,A,c)) ((j+1,A41,cc41)) ou ou (by exact lk [0,1] [0] ⟨rfl,rfl,rfl,rfl,qL,rfl,rfl,rfl,trivial⟩ (hh:=⟨(congrArg some (ax qL oaJ)),trivial⟩))
  apply Y 0xd0e66e;obtain rfl:j=(ops.getD i Po.zero).ln.toNat:=oe;apply Y 0x6a2f;intro he;refine QE.round (i:=(i,A0,c0)) ((i+1,A,c)) ou ou (by exact lk [0,1] [0] ⟨rfl,rfl,rfl,Qq,rfl,trivial⟩ (hh:=⟨(congrArg some OW),trivial⟩))
 apply Y 0xa2ed8e87a9;obtain rfl:i=ops.length:=oe;have hs:syS inn out ops=ah ops:=by unfold syS;rw [if_pos hc17]
 rw [hs,hc17];exact Zm 0x78eb6e
theorem Ep {β:Base}{Γ:Env}{R H:List Pr}{s d m:Nat}{x:Operand}{k:IntKind}{i j:Ti}(hs:ar s X.tab=some i)(hd:ar d X.tab=some j)(hj:j.desc=.int .u64)(hx:ev Γ x=some (.int k (m:Int)))(hm:m<18446744073709551616):
    Ev X β Γ R H (.convert s d x) (.int .u64 (m:Int)):=
  (Ev.pure (v:=.int .u64 (IntKind.u64.wrap (m:Int))) oat).cast (by rw [wrap_u64 hm])
theorem AK (A:Option Addr)(x:List Int)(c:Nat)(t:Int)(hl:x.length≤1000000)(hs:∀ i j,i<j→j<x.length→x.getD i 0<x.getD j 0):
    Ctr X 262 [.slice A x.length c,.int .i64 t] [Rd A (I64 x)] [] (fun v R' H'=>∃ k:Nat,v=.tuple #[.int .i64 (k:Int),.bool (x.contains t)]∧R'=[]∧H'=[]∧k≤x.length∧(∀ q,q<k→x.getD q 0<t)∧(∀ q,k≤q→q<x.length→t≤x.getD q 0)):=by
 refine co Tryz.func262 ?_;intro β;apply Y 0xba5e87e87c8;refine lp [0,1,6] [_,_,_] (fun q:Nat×Nat=>[(7,.int .i64 (q.1:Int)),(8,.int .i64 (q.2:Int))]) (kz [_]) nz (fun q=>q.1≤q.2∧q.2≤x.length∧(∀ a,a<q.1→x.getD a 0<t)∧(∀ a,q.2≤a→a<x.length→t≤x.getD a 0)) (fun q=>q.2-q.1) (0,x.length) ⟨Nat.zero_le _,Nat.le_refl _,br,fun a h1 h2=>absurd h1 ou⟩ (lk [0] []) ?_;apply Y 0x2c0f;intro i j hij hjl h1 h2
 dsimp only at hij hjl h1 h2 ⊢;apply Zu 0x79e858<;>intro
 ·apply Y 0x5ba99;have hsh:(i+j)>>>1=(i+j)/2:=by rw [Nat.shiftRight_eq_div_pow]
  have hhj:(i+j)>>>1<x.length:=oe;apply Y 0x9c;refine sp (Ev.cast (u:=.int .i64 ((i+j:Nat):Int)) (Ev.add rfl rfl oe oe) (congrArg (Value.int .i64) oe)) ?_;refine sp (Ep (m:=i+j) rfl rfl rfl rfl oe) ?_;refine sp (HL (k:=1) rfl rfl ob) ?_;apply Y 0x2d1ace;refine sp (ae (k:=((i+j)>>>1)) rfl rfl rfl rfl rfl rfl rfl hhj (Src.r 0 rfl) ox) ?_;refine sp (Ev.load rfl rfl rfl (Src.r 0 rfl) (aH hhj)) ?_;apply Y 0x6;refine al (I4 _ _) ?_;apply Zu 0x1a88a8<;>intro hc27
  ·have hlt:x.getD ((i+j)>>>1) 0<t:=of_decide_eq_true hc27;apply Y 0x25e400f;refine QE.round (i:=(i,j)) (((i+j)>>>1+1,j)) (by exact ⟨by dsimp only;omega,hjl,fun a ha=>by
    rcases Nat.lt_or_ge a ((i+j)>>>1) with h|h
    ·have:=hs a _ h hhj
     omega
    ·obtain rfl:a=(i+j)>>>1:=by dsimp only at ha;omega
     exact hlt,h2⟩) ou qd
  ·have hge:¬x.getD ((i+j)>>>1) 0<t:=of_decide_eq_false hc27;apply Y 0x25efd9c;refine QE.round (i:=(i,j)) ((i,(i+j)>>>1)) (by exact ⟨by dsimp only;omega,by dsimp only;omega,h1,fun a ha hal=>by
    rcases Nat.eq_or_lt_of_le ha with h|h
    ·dsimp only at h;rw [← h];omega
    ·have:=hs _ a h hal
     dsimp only at this;omega⟩) ou qd
 ·apply Zu 0xb60fb82da9<;>intro
  ·apply Y 0xacacac540f45d1fed;refine L.bool 42 rfl (imp fA ?_) (imp fz ?_)<;>intro hg42
   ·have hx:x.contains t=true:=jW oe hg42;exact Zm 0xa61fd5ed8384841d39
   ·have hx:x.contains t=false:=lq (fun q hq e=>by
     rcases Nat.lt_trichotomy q i with h|h|h
     ·have:=h1 q h;omega
     ·subst h;exact hg42 e
     ·have a1:=hs i q h hq
      have a2:=h2 i oe oe
      omega)
    apply Y 0x4540f45d1fed;refine al (IW _) ?_;exact Zm 0xa61fd5ed83848b9ddaca8
  have hx:x.contains t=false:=lq (fun q hq=>by have:=h1 q oe;omega);exact Zm 0xa61fd5ed8e81d393939
theorem jt {P:Program}{t:Nat}{d:TypeDesc}(w:World){xs:Array Value}{off:Nat}{v:Value}(hu:P.underlying t=some d)(hd:(match d with| .struct _| .array _ _=>true|_=>false)=false)(hx:xs[off]?=some v):(part t xs off).run P w=.ok v w:=by
 cases d<;>simp at hd<;>simp [part,isAgg,run_underlying hu,hx]
theorem nh {β:Base}{Γ:Env}{R H:List Pr}{x y:Operand}{a b:Sy}{ty:Nat}(hx:ev Γ x=some (.agg (List.toArray a.cells)))(hy:ev Γ y=some (.agg (List.toArray b.cells))):
    Ev X β Γ R H (.binOp .neq 225 x y ty) (.bool (decide (a≠b))):=by
 intro ρ w hρ hw o ho;have e1:=(X.ok 225 _ rfl).und;have u4:=(X.ok 4 _ rfl).und;have u3:=(X.ok 3 _ rfl).und;have u5:=(X.ok 5 _ rfl).und;have hp:X.P.stoodInHeld 225=false:=oa;have hg:X.P.eqGuardType X.P.depth 225=false:=oa;have hf:X.P.fieldsOf 225=#[⟨ "Old",4,0,false, "", "",0⟩,⟨ "At",3,1,false, "", "",8⟩,⟨ "B",5,2,false, "", "",16⟩]:=by unfold Program.fieldsOf;rw [e1];rfl
 have hS:X.P.underlying 225=some (.struct (X.P.fieldsOf 225)):=by rw [hf];exact e1
 have hb:(binOp .neq 225 (.agg (List.toArray a.cells)) (.agg (List.toArray b.cells))).run X.P w=.ok (.bool (decide (a≠b))) w:=by
  rw [run_neq_struct,show (10000:Nat)=9998+1+1 from rfl,run_equalIn_agg w _ 225 _ _ hS hp,hf];obtain ⟨a1,a2,a3⟩:=a;obtain ⟨b1,b2,b3⟩:=b
  simp only [Op.eqFields,Sy.cells];have f1:∀ (p q r:Value),(part 4 #[p,q,r] 0).run X.P w=.ok p w:=fun p q r=>jt w u4 rfl rfl
  have f2:∀ (p q r:Value),(part 3 #[p,q,r] 1).run X.P w=.ok q w:=fun p q r=>jt w u3 rfl rfl
  have f3:∀ (p q r:Value),(part 5 #[p,q,r] 2).run X.P w=.ok r w:=fun p q r=>jt w u5 rfl rfl
  have e3:(a3.toNat:Int)=(b3.toNat:Int)↔a3=b3:=by rw [Int.ofNat_inj,UInt8.toNat_inj]
  simp [f1,f2,f3,run_equalIn_bool' w _ 4 _ _ u4,run_equalIn_int w _ 3 _ _ _ _ u3,run_equalIn_int w _ 5 _ _ _ _ u5]
  by_cases h1:a1=b1
  ·by_cases h2:a2=b2
   ·by_cases h3:a3=b3
    ·simp [h1,h2,h3]
    simp [h1,h2,h3,e3]
   simp [h1,h2]
  simp [h1]
 simp [execOp,ho,hρ _ _ hx,hρ _ _ hy,run_eqGuard_agg w .neq 225 x y _ _ hg,hb]
end Go.Proofs.YtbpddeiogcgegaaGreat
namespace Go.Sl
section
variable {X:Cx}{β:Base}{n:Nat}{ds:List Deferred}{ops:Array Oper}{Q:Exit→Act→World→Prop}{rest:List Oper}{Γ:Env}{R H:List Pr}
theorem HO {t e:Nat}{i:Ti}{x:Operand}{A:Option Addr}{m c:Nat}(ht:ar t X.tab=some i)(hd:i.desc=.slice e)(hx:ev Γ x=some (.slice A m c)):Ev X β Γ R H (.call ⟨.builtin .cap,#[x],#[t]⟩) (.int .i64 (c:Int)):=by
 intro ρ w hρ hw o ho;apply Y 0x76e;intro e1;rw [hd] at e1
 simp [execOp,ho,resolve,invoke,builtin,hρ _ _ hx,Builtin.cap_,run_underlying e1];exact Zm 0x2
theorem Own.spare {w:World}{e m c:Nat}{A:Option Addr}{xs:List Value}(h:(Own e 1 A m c xs).p w)(hc:m+1≤c):∃ u,(Own e 1 A (m+1) c (xs++[u])).p w:=by
 rcases h.2 with ⟨hv,_⟩|⟨g,cap,cur,hv,hb,hh,h3,h4,h5,h6⟩
 ·injection hv with _ _ h9
  exact Zm 0x18
 injection hv with h7 h8 h9
 subst h7 h9;rw [Nat.mul_one] at h5 h6;have hm:m<cur.toList.length:=by rw [Array.length_toList];omega
 refine ⟨cur.toList[m],by have:=h.1;rw [List.length_append,this];rfl,.inr ⟨g,c,cur,rfl,hb,hh,hc,h4,by omega,?_⟩⟩;rw [Nat.mul_one,List.take_succ_eq_append_getElem hm,h6]
theorem C.spare {x:Code}{e m c:Nat}{A:Option Addr}{xs:List Value}{H':List Pr}(hc:m+1≤c)(h:∀ u,C X β n ds Q x Γ R (Own e 1 A (m+1) c (xs++[u])::H')):C X β n ds Q x Γ R (Own e 1 A m c xs::H'):=by
 intro a w hf hs;obtain ⟨u,hu⟩:=Own.spare (hs.own 0 _ rfl) hc
 exact h u a w hf (hs.repl (fun _=>hu) (fun k hk=>hk))
theorem iz {P:Program}(w:World)(t tn ty e:TypeId)(i:TypeInfo)(z:Value)(k kn:IntKind)(ht:P.underlying t=some (.slice e))(htn:P.underlying tn=some (.int kn))(hi:P.info? e=some i)(hz:i.zero=some z)
    (b:Addr) (sLen sCap:Nat) (olds:List Value) (hlo:olds.length=sLen*i.size) (holds:∀ j v,olds[j]?=some v→w.cell? (b.add j)=some v)
    (q:Nat) (h0:0<q) (hs:0<i.size) (hg:sCap<sLen+q) (h63:((sLen+q:Nat):Int)≤9223372036854775807) (h48:q*i.bytes≤281474976710656) (hfit:Builtin.nextslicecap (sLen+q) sCap*i.bytes≤281474976710656):
    (Builtin.append_ #[t,tn] ty #[.slice (some b) sLen sCap,.int k q]).run P w=
      .ok (.slice (some ⟨w.heap.size,0,none⟩) (sLen+q) (grownCap w (sLen+q) sCap e))
        (w.drew.alloc (.cells (olds.toArray++Builtin.zeroCells z.cells q++Builtin.zeroCells z.cells (grownCap w (sLen+q) sCap e-(sLen+q))) e)):=by
 have hn:¬ (sLen+q≤sCap):=oe;apply Y 0x922f;intro hw;have h63':¬ (9223372036854775807<((sLen:Int)+(q:Int))):=oe;have h48':¬ (281474976710656<Builtin.nextslicecap (sLen+q) sCap*i.bytes):=oe;have h48i:¬ (281474976710656<(q:Int)*(i.bytes:Int)):=by
  exact Zm 0x18df1f
 apply Y 0x952f;intro hneg;apply Y 0xc52f;intro hns;have hfo:=run_firstCells_some (P:=P) w.drew i.size sLen b sLen sCap olds hlo (by simpa using holds)
 simp [Builtin.append_,run_underlying ht,run_underlying htn,sizeOf,typeInfo,zeroValue,hi,hz,asInt,asIntOf,hw,hn,hneg,hns,h63',h48',h48i,Question.forced,hfo,newRow,grownCap]
theorem fG {z:Value}(h:z.cells=#[z])(q:Nat):(Builtin.zeroCells z.cells q).toList=List.replicate q z:=by
 rw [h];refine List.ext_getElem (by simp [Builtin.zeroCells]) fun i h1 h2=>?_
 simp [Builtin.zeroCells,Nat.mod_one]
theorem Bf {d t tn e ty j m c p q:Nat}{pos:String}{af:Array Edge}{x y:Operand}{A:Option Addr}{xs:List Value}{i ei it:Ti}{kn kq:IntKind}{z:Value}(ht:ar t X.tab=some i)(hdesc:i.desc=.slice e)(he:ar e X.tab=some ei)(hsz:ei.size=1)(hz:ei.zero=z)(hzc:z.cells=#[z])
    (htn:ar tn X.tab=some it) (hit:it.desc=.int kn) (hx:ev Γ x=some (.slice A p c)) (hy:ev Γ y=some (.int kq (q:Int))) (hj:H[j]?=some (Own e 1 A m c xs)) (hpm:p≤m) (hp0:0<xs.length) (hq:0<q) (hg:c<p+q)
    (hml:p+q≤9223372036854775807) (hb:(p+q)*ei.bytes≤140737488355328) (hd:Nat.blt d n=true)
    (k:∀ A' c',L X β n ds ops Q rest ((d,.slice A' (p+q) c')::Γ) R (H++[Own e 1 A' (p+q) c' (xs.take p++List.replicate q z)])):
    L X β n ds ops Q (⟨some d,.call ⟨.builtin .append,#[x,y],#[t,tn]⟩,ty,pos,af,none⟩::rest) Γ R H:=by
 intro a w hf hsat;refine wpList_plain rfl fun K hK=>?_
 obtain ⟨e1,_⟩:=X.ok _ _ ht;rw [hdesc] at e1;obtain ⟨e2,_⟩:=X.ok _ _ htn;rw [hit] at e2;obtain ⟨_,jf,hjf,g1,g2,g3⟩:=X.ok _ _ he;apply Y 0xc41f;intro hown;apply Y 0x241f;intro hlen;rw [Nat.mul_one] at hlen;obtain ⟨g,cur,rfl,hgr,hmc,hcm,hcs,htake⟩:=cF hown hp0;have hfit:Builtin.nextslicecap (p+q) c*jf.bytes≤281474976710656:=by
  have h1:=nextslicecap_le hg;apply Y 0x772f;intro h2;rw [g2] at h2 ⊢;have h3:2*(p+q)*ei.bytes=2*((p+q)*ei.bytes):=Nat.mul_assoc _ _ _;exact Zm 0x18
 have hqb:q*jf.bytes≤281474976710656:=by
  have:=Nat.mul_le_mul_right ei.bytes (Nat.le_add_left q p);rw [g2];exact Zm 0x18
 have hrun:=iz (P:=X.P) w t tn ty e jf ei.zero kq kn e1 e2 hjf g3 ⟨g,0,none⟩ p c (xs.take p) (by rw [g1,hsz,List.length_take];omega) (fun r u hu=>by
  have hr:r<p:=by
   have:=(List.getElem?_eq_some_iff.1 hu).1;rw [List.length_take] at this
   omega
  rw [List.getElem?_take,if_pos hr] at hu;obtain ⟨g',hA,hc,_⟩:=Own.cell hown hu
  injection hA with hA
  injection hA with hA
  subst hA;rw [adz]
  exact hc) q hq (by rw [g1,hsz];decide) hg oe hqb hfit
 have hrun':(execOp a.eval ⟨some d,.call ⟨.builtin .append,#[x,y],#[t,tn]⟩,ty,pos,af,none⟩).run X.P w=.ok (.value (.slice (some ⟨w.heap.size,0,none⟩) (p+q) (grownCap w (p+q) c e))) (w.drew.alloc (.cells ((xs.take p).toArray++Builtin.zeroCells ei.zero.cells q++Builtin.zeroCells ei.zero.cells (grownCap w (p+q) c e-(p+q))) e)):=by
  exact Zm 0x250f
 apply Y 0x14e;rw [hrun'];have hge:=grownCap_ge w (p+q) c e;have hle:=grownCap_le_maxLen w (p+q) c e Qb;apply Y 0x462f;intro hz1;refine hK _ _ (k (some ⟨w.heap.size,0,none⟩) _ _ _ (hf.put oU _) (hsat.snoc ((Stp.drew w _).trans (Stp.alloc _ _ _)) (fun _ h _=>h) _ ?_ ?_))
 ·refine ⟨by rw [List.length_append,List.length_take,List.length_replicate];omega,.inr ⟨w.heap.size,_,_,rfl,Nat.zero_le _,heap_alloc_new w.drew _,hge,hle,?_,?_⟩⟩
  ·rw [Array.size_append,Array.size_append,hz1,hz1,List.size_toArray,List.length_take];exact Zm 0x18
  rw [Array.toList_append,Array.toList_append,hz,fG hzc];have h1:((xs.take p).toArray.toList++List.replicate q z).length=(p+q)*1:=by
   apply Y 0x334f
   simp;exact Zm 0x18
  rw [← h1,List.take_left]
 intro k hk;have:=lg hk;subst this;exact Zm 0x130f
theorem L.overlaps {d t e ty f i j m c m' c' o la ca lb cb:Nat}{pos:String}{af:Array Edge}{x y:Operand}{A B D:Option Addr}{xs ys:List Value}{it ei:Ti}{fn:Func}{tys:Array TypeId}{tR:TypeId}(hf:X.P.funcs[f]?=some fn)(hname:(fn.name== "runtime.NumGoroutine")=false)(hb:fn.body.isNone=true)(hn:Extern.findNext fn=none)
    (hex:Extern.find fn=some (Extern.SlicesOverlaps.overlaps #[t,t] #[tR])) (ht:ar t X.tab=some it) (hdesc:it.desc=.slice e) (he:ar e X.tab=some ei) (hsz:ei.size=1) (hx:ev Γ x=some (.slice A la ca)) (hy:ev Γ y=some (.slice D lb cb))
    (hi:H[i]?=some (Own e 1 A m c xs)) (hj:H[j]?=some (Own e 1 B m' c' ys)) (hij:i≠j) (hD:∀ g,B=some ⟨g,0,none⟩→D=some ⟨g,o,none⟩) (hx0:0<xs.length) (hy0:0<ys.length) (hd:Nat.blt d n=true)
    (k:L X β n ds ops Q rest ((d,.bool false)::Γ) R H):L X β n ds ops Q (⟨some d,.call ⟨.value (.func f),#[x,y],tys⟩,ty,pos,af,none⟩::rest) Γ R H:=by
 intro a w hfr hs;refine wpList_plain rfl fun K hK=>?_
 apply Y 0x14e;obtain ⟨e1,_⟩:=X.ok _ _ ht;rw [hdesc] at e1;have hS:∀ w,(Go.sizeOf e).run X.P w=.ok 1 w:=fun w=>by
  have:=ep (P:=X.P) w (X.ok _ _ he)
  rwa [hsz] at this
 obtain ⟨g,cur,rfl,hg,_,_,hcs,htk⟩:=cF (hs.own i _ hi) hx0;obtain ⟨g',cur',rfl,hg',_,_,hcs',htk'⟩:=cF (hs.own j _ hj) hy0;obtain rfl:=hD g' rfl;have hne:g≠g':=fun e=>hs.dis i j _ _ hi hj hij g ⟨_,rfl,rfl⟩ ⟨_,rfl,e.symm⟩
 have hsz':cur'.size≠0:=fun h0=>by
  have:ys.length≤cur'.size:=by rw [← htk',List.length_take,Array.length_toList];exact Nat.min_le_right _ _
  exact Zm 0x18
 have hr:=Lib.run_overlaps_apart (P:=X.P) w t tR e e1 1 hS ⟨g,0,none⟩ ⟨g',o,none⟩ la ca lb cb hne e e cur.size cur'.size (by simp [World.shape?,hg]) (by simp [World.shape?,hg']) hsz' (frozen_of_row w g 0 cur e hg) (frozen_of_row w g cur.size cur e hg);have hex':(execOp a.eval ⟨some d,.call ⟨.value (.func f),#[x,y],tys⟩,ty,pos,af,none⟩).run X.P w=.ok (.value (.bool false)) w:=by
  have hev:=hfr.agree x _ hx;have hev2:=hfr.agree y _ hy;apply Y 0x882f;intro hfv;have e2:(#[x,y]:Array Operand).map a.eval=#[.slice (some ⟨g,0,none⟩) la ca,.slice (some ⟨g',o,none⟩) lb cb]:=by simp [hev,hev2]
  have hc:=run_callFunc_extern hf hname hb hn hex #[.slice (some ⟨g,0,none⟩) la ca,.slice (some ⟨g',o,none⟩) lb cb] w;rw [hr] at hc;apply Y 0x502f
  simpa using hc
 rw [hex']
 exact hK _ _ (k _ _ (hfr.put oU _) hs)
end
theorem gg {g c l:Nat}(h:c≠l):bj (some ⟨g,0,none⟩) c l 1=some ⟨g,l,none⟩:=by
 unfold bj;rw [if_neg h]
 simp [Addr.add]
 exact fun h=>h.symm
theorem u1 {α:Type}(x:List α)(k:Nat)(h:k≤x.length):∃ a b,x=a++b∧a.length=k:=
  ⟨x.take k,x.drop k,(List.take_append_drop k x).symm,by rw [List.length_take];omega⟩
theorem zK {α:Type}(x:List α)(k:Nat)(t u:α)(h:k<x.length):(((x++[u]).take (k+1)++x.drop k++(x++[u]).drop (k+1+(x.drop k).length)).take k++[t]++((x++[u]).take (k+1)++x.drop k++(x++[u]).drop (k+1+(x.drop k).length)).drop (k+[t].length))=x.take k++[t]++x.drop k:=by
 obtain ⟨a,b,rfl,rfl⟩:=u1 x k oe
 cases b with
 |nil=>simp at h
 |cons y b=>
  have e1:(a++y::b++[u]).take (a.length+1)=a++[y]:=by
   rw [show a++y::b++[u]=(a++[y])++(b++[u]) by simp,show a.length+1=(a++[y]).length by simp,List.take_left]
  have e2:(a++y::b).drop a.length=y::b:=List.drop_left;have e3:(a++y::b++[u]).drop (a.length+1+(y::b).length)=[]:=List.drop_eq_nil_of_le qb;rw [e2,e1,e3];exact Zm 0x81e
theorem Di {α:Type}(x:List α)(k:Nat)(t z:α)(h:k≤x.length):
    (((x.take k++List.replicate (x.length+1-k) z).take k++[t]++(x.take k++List.replicate (x.length+1-k) z).drop (k+[t].length)).take (k+1)++x.drop k++((x.take k++List.replicate (x.length+1-k) z).take k++[t]++(x.take k++List.replicate (x.length+1-k) z).drop (k+[t].length)).drop (k+1+(x.drop k).length))=x.take k++[t]++x.drop k:=by
 obtain ⟨a,b,rfl,rfl⟩:=u1 x k h;have e0:(a++b).length+1-a.length=b.length+1:=by rw [List.length_append];omega
 have e2:(a++b).drop a.length=b:=List.drop_left;have e3:(a++b).take a.length=a:=List.take_left;have e4:(a++List.replicate (b.length+1) z).take a.length=a:=List.take_left;have e5:(a++List.replicate (b.length+1) z).drop (a.length+[t].length)=List.replicate b.length z:=by
  rw [List.replicate_succ,show a++z::List.replicate b.length z=(a++[z])++List.replicate b.length z by simp,show a.length+[t].length=(a++[z]).length by simp,List.drop_left]
 rw [e0,e2,e3,e4,e5];have e6:(a++[t]++List.replicate b.length z).take (a.length+1)=a++[t]:=by rw [show a.length+1=(a++[t]).length by simp,List.take_left]
 have e7:(a++[t]++List.replicate b.length z).drop (a.length+1+b.length)=[]:=List.drop_eq_nil_of_le qb;rw [e6,e7,List.append_nil]
end Go.Sl
namespace Go.Proofs.YtbpddeiogcgegaaGreat
open Go.Sl
theorem vy (l:List Int)(m:Nat):(I64 l).take m=I64 (l.take m):=by simp [I64,List.map_take]
theorem Dh (A:Option Addr)(x:List Int)(c:Nat)(k:Nat)(t:Int)(V:Option Addr)(vc:Nat)(hl:x.length≤1000000)(hk:k≤x.length):
    Ctr X 263 [.slice A x.length c,.int .i64 (k:Int),.slice V 1 vc] [] [Own 3 1 A x.length c (I64 x),Own 3 1 V 1 vc [.int .i64 t]] (fun v R' H'=>∃ (A':Option Addr) (c':Nat),v=.slice A' (x.length+1) c'∧R'=[]∧H'=[Own 3 1 A' (x.length+1) c' (I64 (x.take k++[t]++x.drop k))]):=by
 refine co Tryz.func263 ?_;intro β;apply Zu 0xec3858e8788b40f2dc9<;>intro
 ·exact Zm 0x18
 apply Zu 0xece858e83c<;>intro
 ·apply Y 0x860f2d;intro A25 cc25;apply Y 0x11e591;refine ⟨A25,cc25,rfl,rfl,?_⟩;have hkx:k=x.length:=oe;rw [hkx,List.take_length,List.drop_length,List.append_nil,← c5];exact Zm 0x2
 apply Y 0x69e59d;intro hcap;apply Zu 0x791780f6ca9c<;>intro
 ·apply Y 0x6ca48714f2d;refine sp (Ev.cast (u:=.int .i64 (((x.length+1-k):Nat):Int)) (Ev.sub rfl rfl oe oe) (congrArg (Value.int .i64) oe)) ?_;refine Bf (j:=0) rfl rfl rfl rfl rfl rfl rfl rfl rfl rfl rfl oe ox oe oe oe oY rfl (fun A40 cc40=>?_);apply Y 0x49;refine C.cap 2 rfl (fun h40=>?_);apply Y 0x6b40f9c;refine L.copy (j:=2) (o:=k) rfl rfl rfl rfl rfl (fun g h _=>by rw [h];exact gg oe) rfl rfl (Src.o 1 rfl) qb (dJ rfl) (by rw [List.length_append,List.length_take,List.length_replicate,bu];simp;omega) rfl ?_;apply Y 0xe6e3b40fd6e36fae991f543f343ffe0fee0fde0f4d0f7b;refine L.copy (j:=2) (o:=k+1) rfl rfl rfl rfl rfl (fun g h _=>by rw [h];exact gg oe) rfl rfl ((Src.sub (Src.o 0 rfl) c k 1 ox).cast (by rw [Nat.mul_one])) QK (fun v hv=>cZ _ v (List.mem_of_mem_drop hv)) obO rfl ?_;apply Y 0xcc1f59c86acc;have e:=Di (I64 x) k (.int .i64 t) (.int .i64 0) (by rw [bu];exact hk);rw [bu] at e;refine ⟨A40,cc40,congrArg (fun n=>Value.slice A40 n cc40) oe,rfl,?_⟩;apply Y 0x574f
  exact congrArg (fun z=>[z]) (ax oe e)
 apply Y 0xcab83c;refine sp (bx (h:=x.length+1) rfl rfl rfl rfl rfl oe oe) ?_;apply Y 0x549;refine C.spare oe (fun u=>?_);apply Y 0xca489c;refine sp (bw (l:=k+1) rfl rfl rfl rfl rfl oe oe) ?_;refine L.overlaps (i:=1) (j:=0) (o:=k+1) (t:=31) (e:=3) (tR:=4) (fn:=Tryz.f280) Tryz.func280 oa oa oa oa rfl rfl rfl rfl rfl rfl rfl rfl ob (fun g h=>by rw [h];exact gg oe) (Nat.zero_lt_succ _) oS rfl ?_;apply Y 0x1;refine C.cond rfl (fun _=>?_) (fun h=>by cases h);apply Y 0xe6e3b40fd6e36fae991f543f343ffe0fee0fde0f4d0f5;refine L.copy (j:=0) (o:=k+1) (ys:=(I64 x).drop k) rfl rfl rfl rfl rfl (fun g h _=>by rw [h];exact gg oe) rfl rfl (((Src.sub (Src.o 0 rfl) c k 1 (by rw [List.length_append,bu];simp;omega)).take (x.length-k)).cast (by rw [Nat.mul_one,List.drop_append_of_le_length ox,List.take_append_of_le_length QK,List.take_of_length_le QK])) QK (fun v hv=>cZ _ v (List.mem_of_mem_drop hv)) obO rfl ?_;apply Y 0x6b40f2d6acc;refine L.copy (j:=0) (o:=k) rfl rfl rfl rfl rfl (fun g h _=>by rw [h];exact gg oe) rfl rfl (Src.o 1 rfl) qb (dJ rfl) obO rfl ?_;apply Y 0x11e59c888;have e:=zK (I64 x) k (.int .i64 t) u ox;refine ⟨A,c,rfl,rfl,?_⟩;apply Y 0x574f
 exact congrArg (fun z=>[z]) (ax rfl e)
end Go.Proofs.YtbpddeiogcgegaaGreat
