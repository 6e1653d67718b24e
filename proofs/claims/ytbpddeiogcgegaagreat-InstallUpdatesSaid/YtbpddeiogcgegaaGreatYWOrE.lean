/-
  Part of a proof.
-/
import Derived.Lib.Overlaps
import Derived.Lib.AppendZeros
import Derived.Test.YtbpddeiogcgegaaGreatYWOrA
set_option maxHeartbeats 0
set_option maxRecDepth 4000
set_option linter.all false
namespace Go.Proofs.YtbpddeiogcgegaaGreat
open Go.Sl
theorem Ay (LA:Option Addr)(ls:List (List Int))(lc:Nat)(hs:List Hd)(hh:hs.length=ls.length)(hll:ls.length≤9223372036854775807)(hlr:∀ i,(ls.getD i []).length≤9223372036854775807):
    Ctr X 77 [.slice LA ls.length lc] [Rd LA (aB hs (J8 ls)),KidsR hs (J8 ls)] [] (fun v R' H'=>∃ (A B:Option Addr) (c d:Nat),v=.agg (List.toArray [.slice A (F3 ls).length c,.slice B (F4 ls).length d,.int .i64 (Hv ls)])∧R'=[Rd A (I64 (NI (F3 ls))),Rd B (I64 (NI (F4 ls)))]∧H'=[]):=by
 refine co Tryz.func77 ?_;intro β;apply Y 0x882;intro A2;apply Y 0x487b;refine an (rF LA ls lc hs hh hll hlr) ?_;apply Zu 0xe9129<;>intro hc9
 ·have hrb:cH ls=false:=obc;apply Y 0x590f8fe8fe22ebd598c;obtain ⟨e1,e2,e3⟩:=nw (zW (.inl hrb));apply Zu 0x451f
  ·rw [e1,e2,e3];first|rw [if_pos hrb]|rw [if_neg (by rw [hrb];decide)]
   rfl
  rw [e1,e2]
  rfl
 ·have hrb:cH ls=true:=obc;apply Zu 0x7858aa<;>intro
  ·apply Y 0x590f8fe8fe22ebd598c;have hbig:16<ls.length:=oe;obtain ⟨e1,e2,e3⟩:=nw (zW (.inr hbig));apply Zu 0x451f
   ·rw [e1,e2,e3];first|rw [if_pos hrb]|rw [if_neg (by rw [hrb];decide)]
    rfl
   rw [e1,e2]
   rfl
  ·apply Y 0x192aa;refine lp [0,2] [_,_] (fun k:Nat=>[(3,.int .i64 (k:Int))]) (kz [_,_]) (kz [_]) (fun k=>k≤ls.length+1∧jJ (fun k=>(stL k 0 ls.length).find? (nZ ls.length (rdP ls))) k=none) (fun k=>ls.length+1-k) 0 ⟨Nat.zero_le _,rfl⟩ (lk [0,1] [0]) ?_;apply Y 0xf0e;intro k hk hsr;apply Zu 0x786c4<;>intro
   ·apply Y 0x6c49;refine a8 (yX k oe 0 ls.length oe) ?_;apply Y 0x9ee;intro S sc ss hss;apply Y 0x8d28;have hsl:=ni k 0 ls.length;have hp3:=eE (f:=0) (show ls.length≤16 by omega);apply Y 0x1968;refine lp [0,2,3,4] [_,_,_,_] (fun i:Nat=>[(5,.int .i64 (i:Int))]) (kz [_,_,_,_]) (kz [_]) (fun i=>i≤(stL k 0 ls.length).length∧∀ j,j<i→nZ ls.length (rdP ls) ((stL k 0 ls.length).getD j [])=false) (fun i=>(stL k 0 ls.length).length-i) 0 ⟨Nat.zero_le _,bA⟩ (lk [0,1,2,3] [0]) ?_;apply Y 0xf0e;intro i hi hi2;apply Zu 0x786c4<;>intro
    ·apply Y 0x449;have hni:=ze (k:=k) (f:=0) (n:=ls.length) (i:=i) oe;apply Y 0x962f652fc868;refine L.call (js:=[]) (js':=[0]) (BH LA ls lc hs hh hll hlr hrb oe ((NL (stL k 0 ls.length)).getD i []) (ss.getD i (none,0)).1 (ss.getD i (none,0)).2 (by rw [hni];omega)) rfl rfl rfl ob ⟨(Has.r 2 rfl),(Has.r 3 rfl),((Has.kid 1 rfl qZ (i) oa5).cast (dT _)),trivial⟩ rfl ?_;apply Y 0x89;intro A36 c36;have hfr:(frs ls.length (rdP ls) (fun t=>((NL (stL k 0 ls.length)).getD i []).contains (t:Int)) ls.length)=(frs ls.length (rdP ls) (fun t=>((stL k 0 ls.length).getD i []).contains t) ls.length):=kY (fun t=>RD oe t) ls.length;apply Zu 0x40e15581<;>intro
     ·have hyes:nZ ls.length (rdP ls) ((stL k 0 ls.length).getD i [])=true:=jX.2 (by rw [← hfr];omega);apply Y 0xc8688d4;refine sp (ae (k:=i) rfl rfl rfl rfl rfl rfl rfl oe (Src.r 1 rfl) qz) ?_;refine sp (Ev.load rfl rfl rfl (Src.r 1 rfl) (cG oby obX)) ?_;apply Y 0x10eab58eabbd59ca;refine QE.more (r:=Rd (ss.getD i (none,0)).1 (I64 ((NL (stL k 0 ls.length)).getD i []))) (((Has.kid 2 rfl qZ (i) oa5).cast (dT _))) ?_;apply Y 0x590f;have hT:zX ls=some ((stL k 0 ls.length).getD i []):=by
       rw [zV hrb oe]
       exact xz hsr (BJ (d:=[]) hi2 oe hyes) oe
      obtain ⟨e1,e2,e3⟩:=D1 hrb hT;have hnl:(NL (stL k 0 ls.length)).getD i []=NI ((stL k 0 ls.length).getD i []):=tm oe;refine ⟨A36,(ss.getD i (none,0)).1,c36,(ss.getD i (none,0)).2,?_,?_,rfl⟩
      ·rw [e1,e2,e3,← hfr,show ((stL k 0 ls.length).getD i []).length=((NL (stL k 0 ls.length)).getD i []).length from by rw [hnl,bb]]
       rfl
      rw [e1,e2,← hfr,← hnl]
      rfl
     have hno:nZ ls.length (rdP ls) ((stL k 0 ls.length).getD i [])=false:=Ip.2 (by rw [← hfr];omega);apply Y 0x3ad9;refine QE.round (i+1) (by exact ⟨by omega,bK hi2 hno⟩) oe (lk [0,1,2,3] [1])
    apply Y 0x3a64e;refine QE.round (k+1) (by exact ⟨by omega,zi hsr (ES (d:=[]) (fun j hj=>hi2 j oe))⟩) oe (lk [2,3] [0])
   ·apply Y 0x590f8fe8febd598c69;obtain ⟨e1,e2,e3⟩:=nw (by
     rw [zV hrb oe];have:k=ls.length+1:=oe;rw [this] at hsr
     exact hsr)
    apply Zu 0x451f
    ·rw [e1,e2,e3];first|rw [if_pos hrb]|rw [if_neg (by rw [hrb];decide)]
     rfl
    rw [e1,e2]
    rfl
theorem wi (x:Po)(size:Int)(hs1: -100000≤size-x.ln)(hs2:size-x.ln≤100000):
    Ctr X 312 [.agg (List.toArray x.cells),.int .i64 size] [] [] (fun v R' H'=>v=.bool (Bk x size)∧R'=[]∧H'=[]):=by
 refine co Tryz.func312 ?_;intro β;apply Y 0x2a;intro A2;apply Y 0x5d8fb28;refine L.bool 8 rfl (imp of_decide_eq_true ?_) (imp of_decide_eq_false ?_)<;>intro
 ·apply Y 0x395a57c0e742eb8cb;exact ⟨congrArg Value.bool oaE,rfl,rfl⟩
 apply Y 0x39bb2ba8;exact ⟨congrArg Value.bool oaE,rfl,rfl⟩
theorem DY (x:Po)(size:Int)(hs1: -100000≤size-x.ln)(hs2:size-x.ln≤100000):
    Ctr X 310 [.agg (List.toArray x.cells),.int .i64 size] [] [] (fun v R' H'=>v=.bool (Bk x size&&decide ((x.b.toNat:Int)=0))∧R'=[]∧H'=[]):=by
 refine co Tryz.func310 ?_;intro β;apply Y 0x2a;intro A2;apply Y 0x3e2efb28;refine an (wi x size hs1 hs2) ?_;apply Y 0x329;refine L.bool 8 rfl ?_ ?_<;>intro
 ·apply Zu 0xcf0fc87cb<;>intro
  ·apply Y 0xb2efc395a5b8cb
   simp [*]
   try omega
  apply Y 0xb2efc39bba8
  simp [*]
  try omega
 apply Y 0xb2efc39bb9d2b
 simp [*]
 try omega
theorem DX (x:Po)(size:Int)(hs1: -100000≤size-x.ln)(hs2:size-x.ln≤100000):
    Ctr X 314 [.agg (List.toArray x.cells),.int .i64 size] [] [] (fun v R' H'=>v=.bool (Bk x size&&decide ((x.b.toNat:Int)=0)&&decide (x.ln=0))∧R'=[]∧H'=[]):=by
 refine co Tryz.func314 ?_;intro β;apply Y 0x2a;intro A2;apply Y 0x3e2efb28;refine an (wi x size hs1 hs2) ?_;apply Y 0x329;refine L.bool 8 rfl ?_ ?_<;>intro
 ·apply Zu 0xcf0fc87cb<;>intro
  ·apply Y 0xb2efc395a5742eb8cb
   simp [*]
   try omega
  apply Y 0xb2efc39bbbca8
  simp [*]
  try omega
 apply Y 0xb2efc39bbbc9d2b
 simp [*]
 try omega
theorem DW (x:Po)(size:Int)(_hs1: -100000≤size-x.ln)(_hs2:size-x.ln≤100000):
    Ctr X 317 [.agg (List.toArray x.cells),.int .i64 size] [] [] (fun v R' H'=>v=.bool (decide (x.fr=0))∧R'=[]∧H'=[]):=by
 refine co Tryz.func317 ?_;intro β;apply Y 0x2a;intro A2;apply Y 0x5d8fb28;refine L.bool 8 rfl (imp ey ?_) (imp ew ?_)<;>intro
 ·apply Y 0xb2efc395a5b8cb
  simp [*]
  try omega
 apply Y 0xb2efc39bba8
 simp [*]
 try omega
theorem DV (x:Po)(size:Int)(_hs1: -100000≤size-x.ln)(_hs2:size-x.ln≤100000):
    Ctr X 320 [.agg (List.toArray x.cells),.int .i64 size] [] [] (fun v R' H'=>v=.bool (decide (x.fr=0)&&decide ((x.b.toNat:Int)=0)&&decide (x.ln=0))∧R'=[]∧H'=[]):=by
 refine co Tryz.func320 ?_;intro β;apply Y 0x2a;intro A2;apply Y 0x5d8fb28;refine L.bool 8 rfl (imp ey ?_) (imp ew ?_)<;>intro
 ·apply Zu 0xcf0fc87cb<;>intro
  ·apply Y 0xb2efc395a5742eb8cb
   simp [*]
   try omega
  apply Y 0xb2efc39bbbca8
  simp [*]
  try omega
 apply Y 0xb2efc39bbbc9d2b
 simp [*]
 try omega
theorem DZ (size:Int):
    Ctr X 323 [.agg (List.toArray []),.int .i64 size] [] [] (fun v R' H'=>v=.bool false∧R'=[]∧H'=[]):=by
 refine co Tryz.func323 ?_;intro β;apply Y 0x2a;intro A2;exact Zm 0xd1e39f91
theorem Ju (x:Po)(i:Nat)(h1:0≤x.fr+(i:Int))(h2:x.fr+(i:Int)≤100000)(_h3:0≤x.fr):
    Ctr X 311 [.agg (List.toArray x.cells),.int .i64 (i:Int)] [] [] (fun v R' H'=>v=.agg (List.toArray (Sy.cells ⟨true,x.fr+(i:Int),0⟩))∧R'=[]∧H'=[]):=by
 refine co Tryz.func311 ?_;intro β;apply Y 0x2a;intro A2;apply Y 0x88;intro A4;exact Zm 0xd1e790fbd59ca9b3d8688d7b
theorem Jt (x:Po)(i:Nat)(_h1:0≤x.fr+(i:Int))(_h2:x.fr+(i:Int)≤100000)(_h3:0≤x.fr):
    Ctr X 318 [.agg (List.toArray x.cells),.int .i64 (i:Int)] [] [] (fun v R' H'=>v=.agg (List.toArray (Sy.cells ⟨false,0,x.b⟩))∧R'=[]∧H'=[]):=by
 refine co Tryz.func318 ?_;intro β;apply Y 0x2a;intro A2;apply Y 0x88;intro A4;exact Zm 0xd1e790fbd59cad8688d7b
theorem RL (x:Po):
    Ctr X 235 [.agg (List.toArray x.cells)] [] [] (fun v R' H'=>v=.iface (dK x 337 338 339 340 341) (fc x)∧R'=[]∧H'=[]):=by
 refine co Tryz.func235 ?_;intro β;apply Y 0x2a;intro A1;apply Zu 0x40e2d53ef8d8fb428<;>intro hc5
 ·apply Y 0x4bbbe2e2;have hT:dK x 337 338 339 340 341=337:=oaJ;apply Y 0xe3e;rw [hT]
  unfold fc;rw [if_pos oe]
  rfl
 apply Zu 0x40e2d<;>intro hc9
 ·apply Y 0x4bbbe2e2;have hT:dK x 337 338 339 340 341=338:=oaJ;apply Y 0xe3e;rw [hT]
  unfold fc;rw [if_pos oe]
  rfl
 apply Zu 0x40e2d<;>intro hc13
 ·apply Y 0x4bbbe2e2;have hT:dK x 337 338 339 340 341=339:=oaJ;apply Y 0xe3e;rw [hT]
  unfold fc;rw [if_pos oe]
  rfl
 apply Zu 0x40e2d<;>intro hc17
 ·apply Y 0x4bbbe2e2;have hT:dK x 337 338 339 340 341=340:=oaJ;apply Y 0xe3e;rw [hT]
  unfold fc;rw [if_pos oe]
  rfl
 apply Y 0x39bb8c73ed9;have hT:dK x 337 338 339 340 341=341:=by unfold dK;rw [if_neg hc5,if_neg hc9,if_neg hc13,if_neg hc17]
 apply Y 0xe3e;rw [hT]
 unfold fc;rw [if_neg oe]
 rfl
theorem Hp (x:Po)(size:Int)(hs1: -100000≤size-x.ln)(hs2:size-x.ln≤100000):∃ f,(∀ w,(method (X.P.types.size+Made.depth) (dK x 337 338 339 340 341) (fc x) "inlay/patch.right").run X.P w=.ok (f,fc x) w)∧Ctr X f [fc x,.int .i64 size] [] [] (fun v R' H'=>v=.bool (bM x size)∧R'=[]∧H'=[]):=by
 by_cases h1:x.k=1;apply Y 0x981f;intro e1;apply Y 0x210f;intro e2;rw [e1,e2];refine ⟨310,fun w=>by kernel_rfl,(DY x size hs1 hs2).mono ?_⟩;rintro v R' H' ⟨rfl,h⟩;exact ⟨congrArg Value.bool (by unfold bM;rw [if_pos h1]),h⟩
 by_cases h2:x.k=2;have e1:dK x 337 338 339 340 341=338:=by unfold dK;rw [if_neg h1,if_pos h2]
 apply Y 0x210f;intro e2;rw [e1,e2];refine ⟨314,fun w=>by kernel_rfl,(DX x size hs1 hs2).mono ?_⟩;rintro v R' H' ⟨rfl,h⟩;exact ⟨congrArg Value.bool (by unfold bM;rw [if_neg h1,if_pos h2]),h⟩
 by_cases h3:x.k=3;have e1:dK x 337 338 339 340 341=339:=by unfold dK;rw [if_neg h1,if_neg h2,if_pos h3]
 apply Y 0x210f;intro e2;rw [e1,e2];refine ⟨317,fun w=>by kernel_rfl,(DW x size hs1 hs2).mono ?_⟩;rintro v R' H' ⟨rfl,h⟩;exact ⟨congrArg Value.bool (by unfold bM;rw [if_neg h1,if_neg h2,if_pos h3]),h⟩
 by_cases h4:x.k=4;have e1:dK x 337 338 339 340 341=340:=by unfold dK;rw [if_neg h1,if_neg h2,if_neg h3,if_pos h4]
 apply Y 0x210f;intro e2;rw [e1,e2];refine ⟨320,fun w=>by kernel_rfl,(DV x size hs1 hs2).mono ?_⟩;rintro v R' H' ⟨rfl,h⟩;exact ⟨congrArg Value.bool (by unfold bM;rw [if_neg h1,if_neg h2,if_neg h3,if_pos h4]),h⟩;have e1:dK x 337 338 339 340 341=341:=by unfold dK;rw [if_neg h1,if_neg h2,if_neg h3,if_neg h4]
 have e2:fc x=.agg (List.toArray []):=by unfold fc;rw [if_neg oe]
 rw [e1,e2];refine ⟨323,fun w=>by kernel_rfl,(DZ size).mono ?_⟩;rintro v R' H' ⟨rfl,h⟩;exact ⟨congrArg Value.bool (by unfold bM;rw [if_neg h1,if_neg h2,if_neg h3,if_neg h4]),h⟩
theorem ND (x:Po)(size:Int)(i:Nat)(hr:bM x size=true)(hl:(i:Int)<x.ln)(hs:size≤65536)(hi:(i:Int)≤65536):∃ f,(∀ w,(method (X.P.types.size+Made.depth) (dK x 337 338 339 340 341) (fc x) "inlay/patch.symbol").run X.P w=.ok (f,fc x) w)∧Ctr X f [fc x,.int .i64 (i:Int)] [] [] (fun v R' H'=>v=.agg (List.toArray (pS x i).cells)∧R'=[]∧H'=[]):=by
 have hk:(x.k=1∧0≤x.fr∧x.fr≤size-x.ln)∨(x.k=3∧x.fr=0):=by
  unfold bM Bk at hr
  by_cases h1:x.k=1
  ·rw [if_pos h1] at hr
   simp at hr
   exact .inl ⟨h1,hr.1.1,hr.1.2⟩
  rw [if_neg h1] at hr
  by_cases h2:x.k=2
  ·rw [if_pos h2] at hr
   simp at hr
   omega
  rw [if_neg h2] at hr
  by_cases h3:x.k=3
  ·rw [if_pos h3] at hr
   simp at hr
   exact .inr ⟨h3,hr⟩
  rw [if_neg h3] at hr
  by_cases h4:x.k=4
  ·rw [if_pos h4] at hr
   simp at hr
   omega
  rw [if_neg h4] at hr
  cases hr
 apply Y 0x210f;intro e2
 rcases hk with ⟨h1,h2,h3⟩|⟨h1,h2⟩
 ·apply Y 0x981f;intro e1;rw [e1,e2];refine ⟨311,fun w=>by kernel_rfl,(Ju x i oe oe h2).mono ?_⟩;rintro v R' H' ⟨rfl,h⟩;exact ⟨by unfold pS;rw [if_pos h1],h⟩
 have e1:dK x 337 338 339 340 341=339:=by unfold dK;rw [if_neg oe,if_neg oe,if_pos h1]
 rw [e1,e2];refine ⟨318,fun w=>by kernel_rfl,(Jt x i oe oe oe).mono ?_⟩;rintro v R' H' ⟨rfl,h⟩;exact ⟨by unfold pS;rw [if_neg oe],h⟩
theorem wX (lf:Bool)(inn out:Int)(ops:List Po)(OA:Option Addr)(oc:Nat)(hops:ops.length≤9223372036854775807):
    Ctr X 194 [.agg (List.toArray [.bool lf,.int .i64 inn,.int .i64 out,.slice OA ops.length oc])] [Rd OA (cv ops)] [] (fun v R' H'=>∃ q:Int,v=.tuple #[.int .i64 q,.int .i64 (cU inn out ops)]∧R'=[]∧H'=[]):=by
 refine co Tryz.func194 ?_;intro β;apply Y 0x2a;intro A1;apply Y 0xd8d8fb4283;refine sp (Ev.cast (u:=.int .i64 (min inn out)) (Ev.pure rfl) (congrArg (Value.int .i64) Qc)) ?_;apply Zu 0xdf0f5<;>intro
 ·apply Y 0x19dbca8;refine C.cond rfl (fun _=>?_) (fun h=>by cases h);apply Y 0xfde44e4a48;intro hE;exact Zm 0xa5e
 apply Zu 0x201fc87b90f7cbcb<;>intro
 ·apply Y 0x1a8;refine C.cond rfl (fun _=>?_) (fun h=>by cases h);apply Y 0xfde44e4a48;intro hE;exact Zm 0xa5e
 apply Zu 0x782ccb<;>intro
 ·apply Y 0xfde44e4a48;intro hE;exact Zm 0xa5e
 apply Y 0x193d8228d82e8;refine lp [1,30,31] [_,_,_] (fun q:Nat×Int=>[(4,.int .i64 q.2),(32,.int .i64 (q.1:Int))]) (kz [_,_]) nz (fun q=>q.1≤ops.length∧0≤q.2∧q.2≤65536∧fh inn out ops=fh inn q.2 (ops.drop q.1)) (fun q=>ops.length-q.1) (0,out) ⟨Nat.zero_le _,by dsimp only;omega,by dsimp only;omega,rfl⟩ (lk [0,1] []) ?_;apply Y 0x4e0f;intro i left hi hl0 hl1 hinv
 dsimp only at hi hl0 hl1 hinv ⊢;apply Zu 0x1cda<;>intro
 ·apply Y 0x88e31f140f4849;intro A6;apply Y 0x47b593;refine aG [_,_,_] ⟨Has.r 0 rfl,Has.r 1 rfl,Has.o 0 rfl,trivial⟩ ?_;refine mq 0 rfl (faR 2) ?_;refine mq 1 rfl (ldR 2) ?_;apply Y 0xdfe4de;refine LM.bool 40 rfl (imp of_decide_eq_true ?_) (imp of_decide_eq_false ?_)<;>intro
  ·have hno:fh inn left (ops.drop i)=false:=lB oe (.inl oe);refine mno 4 ?_;refine mno 5 ?_;refine mno 6 ?_;refine mno 7 ?_;apply Y 0x75ed5e;refine mno 10 ?_;refine mno 11 ?_;apply Y 0x1b9c4fe6a2ee8e6a2e82ec9a2ec5e6a2e63e;refine C.cond rfl (fun _=>?_) (fun h=>by cases h);apply Y 0x5ce44e10eab4a58;intro hE;exact Zm 0xa5e
  refine my 4 rfl (faR 2) ?_;refine my 5 rfl (ldR 2) ?_;refine my 6 rfl (Ev.pure rfl) ?_;refine my 7 rfl (Ev.pure rfl) ?_;apply Y 0x75ed5e;refine LM.bool 46 rfl (imp of_decide_eq_true ?_) (imp of_decide_eq_false ?_)<;>intro
  ·have hno:fh inn left (ops.drop i)=false:=lB oe (.inr (.inl oe));refine mno 10 ?_;refine mno 11 ?_;apply Y 0x1b9c4fe6a2ee8e6a2e82ec9a2ec5e6a2e63e;refine C.cond rfl (fun _=>?_) (fun h=>by cases h);apply Y 0x5ce44e10eab4a58;intro hE;exact Zm 0xa5e
  refine my 10 rfl (ab rfl rfl rfl (Src.r 2 rfl) rfl rfl ob) ?_;refine my 12 rfl (faR 0) ?_;refine my 13 rfl (ldR 0) ?_;apply Y 0x784e;refine an (RL (ops.getD i Po.zero)) ?_;apply Y 0x782ec929;refine CJ (js:=[]) (js':=[0]) (Hp (ops.getD i Po.zero) inn oe oe) rfl rfl rfl rfl ob trivial rfl ?_;apply Zu 0xe91b9c4fe66ae8e629<;>intro hc53
  ·have hno:fh inn left (ops.drop i)=false:=lB oe (.inr (.inr (by simpa using hc53)));apply Y 0x5ce44e10eab4a58;intro hE;exact Zm 0xa5e
  have hright:bM (ops.getD i Po.zero) inn=true:=by simpa using hc53
  apply Y 0x6d90ec0e94e998ae8;refine QE.round (i:=(i,left)) ((i+1,left-(ops.getD i Po.zero).ln)) (by exact ⟨by dsimp only;omega,by dsimp only;omega,by dsimp only;omega,by dsimp only;rw [hinv,s3 oe oe oe hright]⟩) ou (lk [0,1] [])
 apply Zu 0x7848469<;>intro
 ·have hno:fh inn left (ops.drop i)=false:=by rw [iu oe];exact decide_eq_false oe
  apply Y 0x5ce44e4a5d82;intro hE;exact Zm 0xa5e
 apply Y 0x44e5a5d82e8;have hE:cU inn out ops=0:=by
  unfold cU;rw [if_neg oe,hinv,iu oe,decide_eq_true oe]
  rfl
 exact Zm 0xa5e
theorem yN (lf:Bool)(inn out:Int)(ops:List Po)(OA:Option Addr)(oc:Nat)(hops:ops.length≤9223372036854775807):
    Ctr X 237 [.agg (List.toArray [.bool lf,.int .i64 inn,.int .i64 out,.slice OA ops.length oc])] [Rd OA (cv ops)] [] (fun v R' H'=>∃ (A:Option Addr) (c:Nat),v=.tuple #[.slice A (syS inn out ops).length c,.int .i64 (cU inn out ops)]∧R'=[]∧H'=[Own 225 3 A (syS inn out ops).length c (dh (syS inn out ops))]):=by
 refine co Tryz.func237 ?_;intro β;apply Y 0x2a;intro A1;apply Y 0xe2efb4283;refine an (wX lf inn out ops OA oc hops) ?_;apply Y 0x21e;intro q;apply Zu 0x5d2d155<;>intro hc17
 ·apply Y 0x4a58;refine QE.nil_own 225 3 ?_;apply Y 0x34e;have hs:syS inn out ops=[]:=by unfold syS;rw [if_neg hc17]
  rw [hs];exact Zm 0x43e
 obtain ⟨k1,k2,k3,k4,k5,k6⟩:=fD hc17;apply Y 0xdc2e8;refine sp (Ev.cast (u:=.int .i64 ((out.toNat:Nat):Int)) (ldR 0) (congrArg (Value.int .i64) oe)) ?_;refine CH (m:=out.toNat) rfl rfl rfl rfl rfl obz oe rfl (fun A21=>?_);apply Y 0x193d8228;refine lp [] [] (fun q:Nat×Option Addr×Nat=>[(1,ag A1 0),(23,.slice OA ops.length oc),(24,.int .i64 (ops.length:Int)),(6,.slice q.2.1 (ah (ops.take q.1)).length q.2.2),(25,.int .i64 (q.1:Int))]) (kz [_,_]) (fun q=>[Own 225 3 q.2.1 (ah (ops.take q.1)).length q.2.2 (dh (ah (ops.take q.1)))]) (fun q=>q.1≤ops.length) (fun q=>ops.length-q.1) (0,A21,out.toNat) (Nat.zero_le _) (lk [0,1] [0]) ?_;apply Y 0xb1e;intro i A c hi
 dsimp only at hi ⊢;apply Zu 0x1cda<;>intro
 ·have hop:=j3 ops out k6 i oe;apply Y 0x88e31f140f249;intro A8;apply Y 0x85e2f8eb;refine an (RL (ops.getD i Po.zero)) ?_;apply Y 0x6c1f19ba2129;intro A0 hA0;apply Y 0x7c1f;intro c0 hc0;refine lp [] [] (fun q:Nat×Option Addr×Nat=>[(1,ag A1 0),(23,.slice OA ops.length oc),(24,.int .i64 (ops.length:Int)),(25,.int .i64 (i:Int)),(6,.slice q.2.1 (ah (ops.take i)++l5 (ops.getD i Po.zero) q.1).length q.2.2),(9,.iface (dK (ops.getD i Po.zero) 337 338 339 340 341) (fc (ops.getD i Po.zero))),(32,.int .i64 (ops.getD i Po.zero).ln),(33,.int .i64 (q.1:Int))]) (kz [_,_]) (fun q=>[Own 225 3 q.2.1 (ah (ops.take i)++l5 (ops.getD i Po.zero) q.1).length q.2.2 (dh (ah (ops.take i)++l5 (ops.getD i Po.zero) q.1))]) (fun q=>(q.1:Int)≤(ops.getD i Po.zero).ln) (fun q=>(ops.getD i Po.zero).ln.toNat-q.1) (0,A,c) ou (by exact lk [0,1] [0] ⟨rfl,rfl,rfl,rfl,QP,rfl,rfl,rfl,trivial⟩ (hh:=⟨(congrArg some Q1),trivial⟩)) ?_;apply Y 0xb1e;intro j A c hj
  dsimp only at hj ⊢;apply Zu 0x1cda<;>intro
  ·apply Y 0x2d49;have hpre:=vd ops i j oe oe;have htot:=pb ops out k3 k6;apply Y 0xa71f;intro e1;apply Y 0xc868;refine CJ (js:=[]) (js':=[0]) (ND (ops.getD i Po.zero) inn j hop.2.2 oe oe oe) rfl rfl rfl rfl ob trivial rfl ?_;apply Y 0x202f29;intro A40;apply Y 0xfe1f;intro A41 cc41;apply Y 0x6d90e;refine QE.round (i:=(j,A,c)) ((j+1,A41,cc41)) ou ou (by exact lk [0,1] [0] ⟨rfl,rfl,rfl,rfl,qw,rfl,rfl,rfl,trivial⟩ (hh:=⟨(congrArg some (ay qw oaC)),trivial⟩))
  apply Y 0x6d64e;obtain rfl:j=(ops.getD i Po.zero).ln.toNat:=oe;have he:=kh ops i oe;refine QE.round (i:=(i,A0,c0)) ((i+1,A,c)) ou ou (by exact lk [0,1] [0] ⟨rfl,rfl,rfl,Qe,rfl,trivial⟩ (hh:=⟨(congrArg some OR),trivial⟩))
 apply Y 0x34e5a5869;obtain rfl:i=ops.length:=oe;have hs:syS inn out ops=ah ops:=by unfold syS;rw [if_pos hc17]
 rw [hs,hc17];exact Zm 0xd6ee4e
theorem FQ {β:Base}{Γ:Env}{R H:List Pr}{s d m:Nat}{x:Operand}{k:IntKind}{i j:Ti}(hs:au s X.tab=some i)(hd:au d X.tab=some j)(hj:j.desc=.int .u64)(hx:ev Γ x=some (.int k (m:Int)))(hm:m<18446744073709551616):
    Ev X β Γ R H (.convert s d x) (.int .u64 (m:Int)):=
  (Ev.pure (v:=.int .u64 (IntKind.u64.wrap (m:Int))) oaj).cast (by rw [wrap_u64 hm])
theorem Cm (A:Option Addr)(x:List Int)(c:Nat)(t:Int)(hl:x.length≤1000000)(hs:∀ i j,i<j→j<x.length→x.getD i 0<x.getD j 0):
    Ctr X 262 [.slice A x.length c,.int .i64 t] [Rd A (I64 x)] [] (fun v R' H'=>∃ k:Nat,v=.tuple #[.int .i64 (k:Int),.bool (x.contains t)]∧R'=[]∧H'=[]∧k≤x.length∧(∀ q,q<k→x.getD q 0<t)∧(∀ q,k≤q→q<x.length→t≤x.getD q 0)):=by
 refine co Tryz.func262 ?_;intro β;apply Y 0x53e28581582d;refine lp [0,1,6] [_,_,_] (fun q:Nat×Nat=>[(7,.int .i64 (q.1:Int)),(8,.int .i64 (q.2:Int))]) (kz [_]) nz (fun q=>q.1≤q.2∧q.2≤x.length∧(∀ a,a<q.1→x.getD a 0<t)∧(∀ a,q.2≤a→a<x.length→t≤x.getD a 0)) (fun q=>q.2-q.1) (0,x.length) ⟨Nat.zero_le _,Nat.le_refl _,bA,fun a h1 h2=>absurd h1 ou⟩ (lk [0] []) ?_;apply Y 0x4e0f;intro i j hij hjl h1 h2
 dsimp only at hij hjl h1 h2 ⊢;apply Zu 0x78584<;>intro
 ·apply Y 0x453ee8;have hsh:(i+j)>>>1=(i+j)/2:=by rw [Nat.shiftRight_eq_div_pow]
  have hhj:(i+j)>>>1<x.length:=oe;apply Y 0x3b;refine sp (Ev.cast (u:=.int .i64 ((i+j:Nat):Int)) (Ev.add rfl rfl oe oe) (congrArg (Value.int .i64) oe)) ?_;refine sp (FQ (m:=i+j) rfl rfl rfl rfl oe) ?_;refine sp (I3 (k:=1) rfl rfl ob) ?_;apply Y 0x581600f;refine sp (ae (k:=((i+j)>>>1)) rfl rfl rfl rfl rfl rfl rfl hhj (Src.r 0 rfl) ow) ?_;refine sp (Ev.load rfl rfl rfl (Src.r 0 rfl) (aJ hhj)) ?_;apply Y 0x3;refine an (Kf _ _) ?_;apply Zu 0xe9f829<;>intro hc27
  ·have hlt:x.getD ((i+j)>>>1) 0<t:=of_decide_eq_true hc27;apply Y 0x68ecde;refine QE.round (i:=(i,j)) (((i+j)>>>1+1,j)) (by exact ⟨by dsimp only;omega,hjl,fun a ha=>by
    rcases Nat.lt_or_ge a ((i+j)>>>1) with h|h
    ·have:=hs a _ h hhj
     omega
    ·obtain rfl:a=(i+j)>>>1:=by dsimp only at ha;omega
     exact hlt,h2⟩) ou O3
  ·have hge:¬x.getD ((i+j)>>>1) 0<t:=of_decide_eq_false hc27;apply Y 0x68e50e3b;refine QE.round (i:=(i,j)) ((i,(i+j)>>>1)) (by exact ⟨by dsimp only;omega,by dsimp only;omega,h1,fun a ha hal=>by
    rcases Nat.eq_or_lt_of_le ha with h|h
    ·dsimp only at h;rw [← h];omega
    ·have:=hs _ a h hal
     dsimp only at this;omega⟩) ou O3
 ·apply Zu 0x820fc85869<;>intro
  ·apply Y 0x6a2cffe7831fb86a;refine L.bool 42 rfl (imp ey ?_) (imp ew ?_)<;>intro hg42
   ·have hx:x.contains t=true:=kV oe hg42;exact Zm 0xde0f44e5ac87faa8
   ·have hx:x.contains t=false:=mC (fun q hq e=>by
     rcases Nat.lt_trichotomy q i with h|h|h
     ·have:=h1 q h;omega
     ·subst h;exact hg42 e
     ·have a1:=hs i q h hq
      have a2:=h2 i oe oe
      omega)
    apply Y 0x7ffe7831fb86a;refine an (J6 _) ?_;exact Zm 0xde0f44e5ac8b8bc6a29
  have hx:x.contains t=false:=mC (fun q hq=>by have:=h1 q oe;omega);exact Zm 0xde0f44e5a5faa8a8a8
theorem kv {P:Program}{t:Nat}{d:TypeDesc}(w:World){xs:Array Value}{off:Nat}{v:Value}(hu:P.underlying t=some d)(hd:(match d with| .struct _| .array _ _=>true|_=>false)=false)(hx:xs[off]?=some v):(part t xs off).run P w=.ok v w:=by
 cases d<;>simp at hd<;>simp [part,isAgg,run_underlying hu,hx]
theorem pG {β:Base}{Γ:Env}{R H:List Pr}{x y:Operand}{a b:Sy}{ty:Nat}(hx:ev Γ x=some (.agg (List.toArray a.cells)))(hy:ev Γ y=some (.agg (List.toArray b.cells))):
    Ev X β Γ R H (.binOp .neq 225 x y ty) (.bool (decide (a≠b))):=by
 intro ρ w hρ hw o ho;have e1:=(X.ok 225 _ rfl).und;have u4:=(X.ok 4 _ rfl).und;have u3:=(X.ok 3 _ rfl).und;have u5:=(X.ok 5 _ rfl).und;have hp:X.P.stoodInHeld 225=false:=oa;have hg:X.P.eqGuardType X.P.depth 225=false:=oa;have hf:X.P.fieldsOf 225=#[⟨ "Old",4,0,false, "", "",0⟩,⟨ "At",3,1,false, "", "",8⟩,⟨ "B",5,2,false, "", "",16⟩]:=by unfold Program.fieldsOf;rw [e1];rfl
 have hS:X.P.underlying 225=some (.struct (X.P.fieldsOf 225)):=by rw [hf];exact e1
 have hb:(binOp .neq 225 (.agg (List.toArray a.cells)) (.agg (List.toArray b.cells))).run X.P w=.ok (.bool (decide (a≠b))) w:=by
  rw [run_neq_struct,show (10000:Nat)=9998+1+1 from rfl,run_equalIn_agg w _ 225 _ _ hS hp,hf];obtain ⟨a1,a2,a3⟩:=a;obtain ⟨b1,b2,b3⟩:=b
  simp only [Op.eqFields,Sy.cells];have f1:∀ (p q r:Value),(part 4 #[p,q,r] 0).run X.P w=.ok p w:=fun p q r=>kv w u4 rfl rfl
  have f2:∀ (p q r:Value),(part 3 #[p,q,r] 1).run X.P w=.ok q w:=fun p q r=>kv w u3 rfl rfl
  have f3:∀ (p q r:Value),(part 5 #[p,q,r] 2).run X.P w=.ok r w:=fun p q r=>kv w u5 rfl rfl
  have e3:(a3.toNat:Int)=(b3.toNat:Int)↔a3=b3:=by rw [Int.ofNat_inj,UInt8.toNat_inj]
  simp [f1,f2,f3,run_equalIn_bool' w _ 4 _ _ u4,run_equalIn_int w _ 3 _ _ _ _ u3,run_equalIn_int w _ 5 _ _ _ _ u5]
  by_cases h1:a1=b1
  ·by_cases h2:a2=b2
   ·by_cases h3:a3=b3
    ·simp [h1,h2,h3]
    simp [h1,h2,h3,e3]
   simp [h1,h2]
  simp [h1]
 simp [execOp,ho,hρ _ _ hx,hρ _ _ hy,run_eqGuard_agg w .neq 225 x y _ _ hg,hb]
end Go.Proofs.YtbpddeiogcgegaaGreat
namespace Go.Sl
section
variable {X:Cx}{β:Base}{n:Nat}{ds:List Deferred}{ops:Array Oper}{Q:Exit→Act→World→Prop}{rest:List Oper}{Γ:Env}{R H:List Pr}
theorem I7 {t e:Nat}{i:Ti}{x:Operand}{A:Option Addr}{m c:Nat}(ht:au t X.tab=some i)(hd:i.desc=.slice e)(hx:ev Γ x=some (.slice A m c)):Ev X β Γ R H (.call ⟨.builtin .cap,#[x],#[t]⟩) (.int .i64 (c:Int)):=by
 intro ρ w hρ hw o ho;apply Y 0x35e;intro e1;rw [hd] at e1
 simp [execOp,ho,resolve,invoke,builtin,hρ _ _ hx,Builtin.cap_,run_underlying e1]
 rfl
theorem Own.spare {w:World}{e m c:Nat}{A:Option Addr}{xs:List Value}(h:(Own e 1 A m c xs).p w)(hc:m+1≤c):∃ u,(Own e 1 A (m+1) c (xs++[u])).p w:=by
 rcases h.2 with ⟨hv,_⟩|⟨g,cap,cur,hv,hb,hh,h3,h4,h5,h6⟩
 ·injection hv with _ _ h9
  omega
 injection hv with h7 h8 h9
 subst h7 h9;rw [Nat.mul_one] at h5 h6;have hm:m<cur.toList.length:=by rw [Array.length_toList];omega
 refine ⟨cur.toList[m],by have:=h.1;rw [List.length_append,this];rfl,.inr ⟨g,c,cur,rfl,hb,hh,hc,h4,by omega,?_⟩⟩;rw [Nat.mul_one,List.take_succ_eq_append_getElem hm,h6]
theorem C.spare {x:Code}{e m c:Nat}{A:Option Addr}{xs:List Value}{H':List Pr}(hc:m+1≤c)(h:∀ u,C X β n ds Q x Γ R (Own e 1 A (m+1) c (xs++[u])::H')):C X β n ds Q x Γ R (Own e 1 A m c xs::H'):=by
 intro a w hf hs;obtain ⟨u,hu⟩:=Own.spare (hs.own 0 _ rfl) hc
 exact h u a w hf (hs.repl (fun _=>hu) (fun k hk=>hk))
theorem jz {P:Program}(w:World)(t tn ty e:TypeId)(i:TypeInfo)(z:Value)(k kn:IntKind)(ht:P.underlying t=some (.slice e))(htn:P.underlying tn=some (.int kn))(hi:P.info? e=some i)(hz:i.zero=some z)
    (b:Addr) (sLen sCap:Nat) (olds:List Value) (hlo:olds.length=sLen*i.size) (holds:∀ j v,olds[j]?=some v→w.cell? (b.add j)=some v)
    (q:Nat) (h0:0<q) (hs:0<i.size) (hg:sCap<sLen+q) (h63:((sLen+q:Nat):Int)≤9223372036854775807) (h48:q*i.bytes≤281474976710656) (hfit:Builtin.nextslicecap (sLen+q) sCap*i.bytes≤281474976710656):
    (Builtin.append_ #[t,tn] ty #[.slice (some b) sLen sCap,.int k q]).run P w=
      .ok (.slice (some ⟨w.heap.size,0,none⟩) (sLen+q) (grownCap w (sLen+q) sCap e))
        (w.drew.alloc (.cells (olds.toArray++Builtin.zeroCells z.cells q++Builtin.zeroCells z.cells (grownCap w (sLen+q) sCap e-(sLen+q))) e)):=by
 have hn:¬ (sLen+q≤sCap):=oe;have hw:IntKind.i64.wrap (q:Int)=q:=oac;have h63':¬ (9223372036854775807<((sLen:Int)+(q:Int))):=oe;have h48':¬ (281474976710656<Builtin.nextslicecap (sLen+q) sCap*i.bytes):=oe;have h48i:¬ (281474976710656<(q:Int)*(i.bytes:Int)):=by
  rw [← Int.natCast_mul]
  omega
 have hneg:¬ ((q:Int)<0):=oe;apply Y 0xf91f;intro hns;have hfo:=run_firstCells_some (P:=P) w.drew i.size sLen b sLen sCap olds hlo (by simpa using holds)
 simp [Builtin.append_,run_underlying ht,run_underlying htn,sizeOf,typeInfo,zeroValue,hi,hz,asInt,asIntOf,hw,hn,hneg,hns,h63',h48',h48i,Question.forced,hfo,newRow,grownCap]
theorem gf {z:Value}(h:z.cells=#[z])(q:Nat):(Builtin.zeroCells z.cells q).toList=List.replicate q z:=by
 rw [h];refine List.ext_getElem (by simp [Builtin.zeroCells]) fun i h1 h2=>?_
 simp [Builtin.zeroCells,Nat.mod_one]
theorem CK {d t tn e ty j m c p q:Nat}{pos:String}{af:Array Edge}{x y:Operand}{A:Option Addr}{xs:List Value}{i ei it:Ti}{kn kq:IntKind}{z:Value}(ht:au t X.tab=some i)(hdesc:i.desc=.slice e)(he:au e X.tab=some ei)(hsz:ei.size=1)(hz:ei.zero=z)(hzc:z.cells=#[z])
    (htn:au tn X.tab=some it) (hit:it.desc=.int kn) (hx:ev Γ x=some (.slice A p c)) (hy:ev Γ y=some (.int kq (q:Int))) (hj:H[j]?=some (Own e 1 A m c xs)) (hpm:p≤m) (hp0:0<xs.length) (hq:0<q) (hg:c<p+q)
    (hml:p+q≤9223372036854775807) (hb:(p+q)*ei.bytes≤140737488355328) (hd:Nat.blt d n=true)
    (k:∀ A' c',L X β n ds ops Q rest ((d,.slice A' (p+q) c')::Γ) R (H++[Own e 1 A' (p+q) c' (xs.take p++List.replicate q z)])):
    L X β n ds ops Q (⟨some d,.call ⟨.builtin .append,#[x,y],#[t,tn]⟩,ty,pos,af,none⟩::rest) Γ R H:=by
 intro a w hf hsat;refine wpList_plain rfl fun K hK=>?_
 obtain ⟨e1,_⟩:=X.ok _ _ ht;rw [hdesc] at e1;obtain ⟨e2,_⟩:=X.ok _ _ htn;rw [hit] at e2;obtain ⟨_,jf,hjf,g1,g2,g3⟩:=X.ok _ _ he;apply Y 0x3d0f;intro hown;have hlen:=Own.len hown;rw [Nat.mul_one] at hlen;obtain ⟨g,cur,rfl,hgr,hmc,hcm,hcs,htake⟩:=cR hown hp0;have hfit:Builtin.nextslicecap (p+q) c*jf.bytes≤281474976710656:=by
  have h1:=nextslicecap_le hg;have h2:=Nat.mul_le_mul_right jf.bytes h1;rw [g2] at h2 ⊢;have h3:2*(p+q)*ei.bytes=2*((p+q)*ei.bytes):=Nat.mul_assoc _ _ _
  omega
 have hqb:q*jf.bytes≤281474976710656:=by
  have:=Nat.mul_le_mul_right ei.bytes (Nat.le_add_left q p);rw [g2]
  omega
 have hrun:=jz (P:=X.P) w t tn ty e jf ei.zero kq kn e1 e2 hjf g3 ⟨g,0,none⟩ p c (xs.take p) (by rw [g1,hsz,List.length_take];omega) (fun r u hu=>by
  have hr:r<p:=by
   have:=(List.getElem?_eq_some_iff.1 hu).1;rw [List.length_take] at this
   omega
  rw [List.getElem?_take,if_pos hr] at hu;obtain ⟨g',hA,hc,_⟩:=Own.cell hown hu
  injection hA with hA
  injection hA with hA
  subst hA;rw [adz]
  exact hc) q hq (by rw [g1,hsz];decide) hg oe hqb hfit
 have hrun':(execOp a.eval ⟨some d,.call ⟨.builtin .append,#[x,y],#[t,tn]⟩,ty,pos,af,none⟩).run X.P w=.ok (.value (.slice (some ⟨w.heap.size,0,none⟩) (p+q) (grownCap w (p+q) c e))) (w.drew.alloc (.cells ((xs.take p).toArray++Builtin.zeroCells ei.zero.cells q++Builtin.zeroCells ei.zero.cells (grownCap w (p+q) c e-(p+q))) e)):=by
  exact Zm 0xd00f
 apply Y 0x62e;rw [hrun'];have hge:=grownCap_ge w (p+q) c e;have hle:=grownCap_le_maxLen w (p+q) c e qX;apply Y 0x8a1f;intro hz1;refine hK _ _ (k (some ⟨w.heap.size,0,none⟩) _ _ _ (hf.put oP _) (hsat.snoc ((Stp.drew w _).trans (Stp.alloc _ _ _)) (fun _ h _=>h) _ ?_ ?_))
 ·refine ⟨by rw [List.length_append,List.length_take,List.length_replicate];omega,.inr ⟨w.heap.size,_,_,rfl,Nat.zero_le _,heap_alloc_new w.drew _,hge,hle,?_,?_⟩⟩
  ·rw [Array.size_append,Array.size_append,hz1,hz1,List.size_toArray,List.length_take]
   omega
  rw [Array.toList_append,Array.toList_append,hz,gf hzc];have h1:((xs.take p).toArray.toList++List.replicate q z).length=(p+q)*1:=by
   rw [List.length_append,List.length_replicate]
   simp
   omega
  rw [← h1,List.take_left]
 intro k hk;have:=mw hk;subst this;exact Zm 0xdee
theorem L.overlaps {d t e ty f i j m c m' c' o la ca lb cb:Nat}{pos:String}{af:Array Edge}{x y:Operand}{A B D:Option Addr}{xs ys:List Value}{it ei:Ti}{fn:Func}{tys:Array TypeId}{tR:TypeId}(hf:X.P.funcs[f]?=some fn)(hname:(fn.name== "runtime.NumGoroutine")=false)(hb:fn.body.isNone=true)(hn:Extern.findNext fn=none)
    (hex:Extern.find fn=some (Extern.SlicesOverlaps.overlaps #[t,t] #[tR])) (ht:au t X.tab=some it) (hdesc:it.desc=.slice e) (he:au e X.tab=some ei) (hsz:ei.size=1) (hx:ev Γ x=some (.slice A la ca)) (hy:ev Γ y=some (.slice D lb cb))
    (hi:H[i]?=some (Own e 1 A m c xs)) (hj:H[j]?=some (Own e 1 B m' c' ys)) (hij:i≠j) (hD:∀ g,B=some ⟨g,0,none⟩→D=some ⟨g,o,none⟩) (hx0:0<xs.length) (hy0:0<ys.length) (hd:Nat.blt d n=true)
    (k:L X β n ds ops Q rest ((d,.bool false)::Γ) R H):L X β n ds ops Q (⟨some d,.call ⟨.value (.func f),#[x,y],tys⟩,ty,pos,af,none⟩::rest) Γ R H:=by
 intro a w hfr hs;refine wpList_plain rfl fun K hK=>?_
 apply Y 0x62e;obtain ⟨e1,_⟩:=X.ok _ _ ht;rw [hdesc] at e1;have hS:∀ w,(Go.sizeOf e).run X.P w=.ok 1 w:=fun w=>by
  have:=eI (P:=X.P) w (X.ok _ _ he)
  rwa [hsz] at this
 obtain ⟨g,cur,rfl,hg,_,_,hcs,htk⟩:=cR (hs.own i _ hi) hx0;obtain ⟨g',cur',rfl,hg',_,_,hcs',htk'⟩:=cR (hs.own j _ hj) hy0;obtain rfl:=hD g' rfl;have hne:g≠g':=fun e=>hs.dis i j _ _ hi hj hij g ⟨_,rfl,rfl⟩ ⟨_,rfl,e.symm⟩
 have hsz':cur'.size≠0:=fun h0=>by
  have:ys.length≤cur'.size:=by rw [← htk',List.length_take,Array.length_toList];exact Nat.min_le_right _ _
  omega
 have hr:=Lib.run_overlaps_apart (P:=X.P) w t tR e e1 1 hS ⟨g,0,none⟩ ⟨g',o,none⟩ la ca lb cb hne e e cur.size cur'.size (by simp [World.shape?,hg]) (by simp [World.shape?,hg']) hsz' (frozen_of_row w g 0 cur e hg) (frozen_of_row w g cur.size cur e hg);have hex':(execOp a.eval ⟨some d,.call ⟨.value (.func f),#[x,y],tys⟩,ty,pos,af,none⟩).run X.P w=.ok (.value (.bool false)) w:=by
  have hev:=hfr.agree x _ hx;have hev2:=hfr.agree y _ hy;apply Y 0xda1f;intro hfv;have e2:(#[x,y]:Array Operand).map a.eval=#[.slice (some ⟨g,0,none⟩) la ca,.slice (some ⟨g',o,none⟩) lb cb]:=by simp [hev,hev2]
  have hc:=run_callFunc_extern hf hname hb hn hex #[.slice (some ⟨g,0,none⟩) la ca,.slice (some ⟨g',o,none⟩) lb cb] w;rw [hr] at hc;apply Y 0x161f
  simpa using hc
 rw [hex']
 exact hK _ _ (k _ _ (hfr.put oP _) hs)
end
theorem gU {g c l:Nat}(h:c≠l):bF (some ⟨g,0,none⟩) c l 1=some ⟨g,l,none⟩:=by
 unfold bF;rw [if_neg h]
 simp [Addr.add]
 exact fun h=>h.symm
theorem wM {α:Type}(x:List α)(k:Nat)(h:k≤x.length):∃ a b,x=a++b∧a.length=k:=
  ⟨x.take k,x.drop k,(List.take_append_drop k x).symm,by rw [List.length_take];omega⟩
theorem Bi {α:Type}(x:List α)(k:Nat)(t u:α)(h:k<x.length):(((x++[u]).take (k+1)++x.drop k++(x++[u]).drop (k+1+(x.drop k).length)).take k++[t]++((x++[u]).take (k+1)++x.drop k++(x++[u]).drop (k+1+(x.drop k).length)).drop (k+[t].length))=x.take k++[t]++x.drop k:=by
 obtain ⟨a,b,rfl,rfl⟩:=wM x k oe
 cases b with
 |nil=>simp at h
 |cons y b=>
  have e1:(a++y::b++[u]).take (a.length+1)=a++[y]:=by
   rw [show a++y::b++[u]=(a++[y])++(b++[u]) by simp,show a.length+1=(a++[y]).length by simp,List.take_left]
  have e2:(a++y::b).drop a.length=y::b:=List.drop_left;have e3:(a++y::b++[u]).drop (a.length+1+(y::b).length)=[]:=List.drop_eq_nil_of_le OO;rw [e2,e1,e3]
  simp
theorem EF {α:Type}(x:List α)(k:Nat)(t z:α)(h:k≤x.length):
    (((x.take k++List.replicate (x.length+1-k) z).take k++[t]++(x.take k++List.replicate (x.length+1-k) z).drop (k+[t].length)).take (k+1)++x.drop k++((x.take k++List.replicate (x.length+1-k) z).take k++[t]++(x.take k++List.replicate (x.length+1-k) z).drop (k+[t].length)).drop (k+1+(x.drop k).length))=x.take k++[t]++x.drop k:=by
 obtain ⟨a,b,rfl,rfl⟩:=wM x k h;have e0:(a++b).length+1-a.length=b.length+1:=by rw [List.length_append];omega
 have e2:(a++b).drop a.length=b:=List.drop_left;have e3:(a++b).take a.length=a:=List.take_left;have e4:(a++List.replicate (b.length+1) z).take a.length=a:=List.take_left;have e5:(a++List.replicate (b.length+1) z).drop (a.length+[t].length)=List.replicate b.length z:=by
  rw [List.replicate_succ,show a++z::List.replicate b.length z=(a++[z])++List.replicate b.length z by simp,show a.length+[t].length=(a++[z]).length by simp,List.drop_left]
 rw [e0,e2,e3,e4,e5];have e6:(a++[t]++List.replicate b.length z).take (a.length+1)=a++[t]:=by rw [show a.length+1=(a++[t]).length by simp,List.take_left]
 have e7:(a++[t]++List.replicate b.length z).drop (a.length+1+b.length)=[]:=List.drop_eq_nil_of_le OO;rw [e6,e7,List.append_nil]
end Go.Sl
namespace Go.Proofs.YtbpddeiogcgegaaGreat
open Go.Sl
theorem pE (l:List Int)(m:Nat):(I64 l).take m=I64 (l.take m):=by simp [I64,List.map_take]
theorem EE (A:Option Addr)(x:List Int)(c:Nat)(k:Nat)(t:Int)(V:Option Addr)(vc:Nat)(hl:x.length≤1000000)(hk:k≤x.length):
    Ctr X 263 [.slice A x.length c,.int .i64 (k:Int),.slice V 1 vc] [] [Own 3 1 A x.length c (I64 x),Own 3 1 V 1 vc [.int .i64 t]] (fun v R' H'=>∃ (A':Option Addr) (c':Nat),v=.slice A' (x.length+1) c'∧R'=[]∧H'=[Own 3 1 A' (x.length+1) c' (I64 (x.take k++[t]++x.drop k))]):=by
 refine co Tryz.func263 ?_;intro β;apply Zu 0x40e2d2858f8500f5812<;>intro
 ·omega
 apply Zu 0x40e1582858e8<;>intro
 ·apply Y 0x520f58;intro A25 cc25;apply Y 0x20e4a;refine ⟨A25,cc25,rfl,rfl,?_⟩;have hkx:k=x.length:=oe;rw [hkx,List.take_length,List.drop_length,List.append_nil,← cS]
  rfl
 apply Y 0xc8e4aa;intro hcap;apply Zu 0x78d30f39b3b<;>intro
 ·apply Y 0x58;refine sp (br (h:=k) rfl rfl rfl rfl rfl rfl oe) ?_;apply Y 0x39b5;refine sp (Ev.cast (u:=.int .i64 (((x.length+1-k):Nat):Int)) (Ev.sub rfl rfl oe oe) (congrArg (Value.int .i64) oe)) ?_;refine CK (j:=0) rfl rfl rfl rfl rfl rfl rfl rfl rfl rfl rfl oe ow oe oe oe oV rfl (fun A40 cc40=>?_);apply Y 0x28;refine C.cap 2 rfl (fun h40=>?_);apply Y 0x3500f3b;refine L.copy (j:=2) (o:=k) rfl rfl rfl rfl rfl (fun g h _=>by rw [h];exact gU oe) rfl rfl (Src.o 1 rfl) OO (eZ rfl) (by rw [List.length_append,List.length_take,List.length_replicate,bq];simp;omega) rfl ?_;apply Y 0x680f580f480f170f7b;refine LM.q 3 rfl oa (Ev.add rfl rfl oe oe) rfl trivial ?_;apply Y 0x19e6500fa7e63f8e811fc02f;refine L.copy (j:=2) (o:=k+1) rfl rfl rfl rfl rfl (fun g h _=>by rw [h];exact gU oe) rfl rfl ((Src.sub (Src.o 0 rfl) c k 1 ow).cast (by rw [Nat.mul_one])) Qv (fun v hv=>dk _ v (List.mem_of_mem_drop hv)) obI rfl ?_;apply Y 0x4a481b70e;refine qrt [] [2] [_] rfl rt ?_;have e:=EF (I64 x) k (.int .i64 t) (.int .i64 0) (by rw [bq];exact hk);rw [bq] at e;refine ⟨A40,cc40,congrArg (fun n=>Value.slice A40 n cc40) oe,rfl,?_⟩;rw [← cS,← cS,← xi,← pE]
  exact congrArg (fun z=>[z]) (ay oe e)
 apply Y 0x9b6ce8;refine sp (br (h:=x.length+1) rfl rfl rfl rfl rfl oe oe) ?_;apply Y 0x428;refine C.spare oe (fun u=>?_);apply Y 0x9b53b;refine sp (bx (l:=k+1) rfl rfl rfl rfl rfl oe oe) ?_;refine L.overlaps (i:=1) (j:=0) (o:=k+1) (t:=31) (e:=3) (tR:=4) (fn:=Tryz.f280) Tryz.func280 oa oa oa oa rfl rfl rfl rfl rfl rfl rfl rfl ob (fun g h=>by rw [h];exact gU oe) (Nat.zero_lt_succ _) Ob rfl ?_;apply Y 0x1;refine C.cond rfl (fun _=>?_) (fun h=>by cases h);apply Y 0x680f580f480f170f4;refine LM.q 3 rfl oa (Ev.add rfl rfl oe oe) rfl trivial ?_;apply Y 0x19e6500fa7e63f8e811fc02f;refine L.copy (j:=0) (o:=k+1) (ys:=(I64 x).drop k) rfl rfl rfl rfl rfl (fun g h _=>by rw [h];exact gU oe) rfl rfl (((Src.sub (Src.o 0 rfl) c k 1 (by rw [List.length_append,bq];simp;omega)).take (x.length-k)).cast (by rw [Nat.mul_one,List.drop_append_of_le_length ow,List.take_append_of_le_length Qv,List.take_of_length_le Qv])) Qv (fun v hv=>dk _ v (List.mem_of_mem_drop hv)) obI rfl ?_;apply Y 0x3500f581b70e;refine L.copy (j:=0) (o:=k) rfl rfl rfl rfl rfl (fun g h _=>by rw [h];exact gU oe) rfl rfl (Src.o 1 rfl) OO (eZ rfl) obI rfl ?_;apply Y 0x20e4a48f8;have e:=Bi (I64 x) k (.int .i64 t) u ow;refine ⟨A,c,rfl,rfl,?_⟩;rw [← cS,← cS,← xi,← pE]
 exact congrArg (fun z=>[z]) (ay rfl e)
end Go.Proofs.YtbpddeiogcgegaaGreat
