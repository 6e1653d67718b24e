/-
  Part of a proof.
-/
import Derived.Test.YtbpddeiogcgegaaGreatVTc
import Derived.Test.YtbpddeiogcgegaaGreatVSlT
set_option maxHeartbeats 0
set_option maxRecDepth 4000
set_option linter.all false
namespace Go.Proofs.YtbpddeiogcgegaaGreat
open Go.Sl
def pw:Value:=.iface 331 (.agg #[])
theorem IE:(X.P.info? 331).map (fun i=>i.comparable)=some true:=oa
theorem CU:X.P.stoodInHeld 331=false:=oa
theorem tU (β:Base)(v:Value)(hv:v=pw∨v=.nilIface)(Q:Exit→Act→World→Prop)(h:∀ Γ,QE β 11 [] Q .normal Γ [] []):
    C X β 11 [] Q (.seq (match Tryz.f259.body with|some (.seq _ (.seq a _))=>a|_=>.skip) (match Tryz.f259.body with|some (.seq _ (.seq _ b))=>b|_=>.skip)) [(0,v),(1,v)] [] []:=by
 obtain ⟨info,hi,hc⟩:=Option.map_eq_some_iff.1 IE
 rcases hv with rfl|rfl
 ·apply Y 0xb9fab968e1ff9;refine sp (Bo rfl rfl (X.ok 331 Ia rfl).und hi hc CU rfl rfl) ?_;apply Y 0x1;refine C.cond rfl (fun h=>by cases h) (fun _=>?_);apply Y 0x5a
  exact h _
 apply Y 0x13969e1ff9;refine C.cond rfl (fun h=>by cases h) (fun _=>?_);apply Y 0x5a
 exact h _
theorem fr2 (v:Value):Fr 11 [] { tmps:=((Array.replicate 11 undef).setIfInBounds 1 v).setIfInBounds 0 v,defers:=[] } [(0,v),(1,v)]:=by
 refine ⟨by simp,rfl,fun s u hu=>?_⟩
 match s,hu with
 |0,hu=>injection hu with hu;subst hu;simp
 |1,hu=>injection hu with hu;subst hu;simp
 |s+2,hu=>cases hu
theorem PI (w:World):Sat ⟨w,fun _=>False,fun _=>False⟩ w [] []:=⟨⟨rfl,rfl,rfl,Nat.le_refl _,fun _ _ _=>rfl⟩,by simp,by simp,by simp,by simp,by simp,by simp⟩
theorem nR:RecOk X.P 259 pw:=by
 refine ⟨fun w=>?_,fun w=>?_,fun w=>?_⟩
 ·have hf:X.P.funcs[259]?=some Tryz.f259:=Tryz.func259;have hb:Tryz.f259.body.isNone=false:=rfl;have hname:(Tryz.f259.name== "runtime.NumGoroutine")=false:=rfl
  simp only [beq_eq_false_iff_ne] at hname;apply Y 0x302f;intro h;rw [h] at hb
  cases hb
 ·refine callsD_of_wpS (P:=X.P) Tryz.func259 rfl fun c₀ cs hu=>?_
  apply wpS_seq
  apply wpS_region;apply Y 0xf40f;refine wpS_of_wp (tU ⟨w,fun _=>False,fun _=>False⟩ .nilIface (.inr rfl) _ (fun Γ a' w' hf' hs'=>?_) _ w (fr2 _) (PI w));apply Y 0x4a0f;intro hst;apply Y 0x520f;intro hd
  cases c₀
  simp only at hu;subst hu;exact Zm 0x150f
 refine callsD_of_wpS (P:=X.P) Tryz.func259 rfl fun c₀ cs hu=>?_
 apply wpS_seq
 apply wpS_region;apply Y 0xf40f;refine wpS_of_wp (tU ⟨w,fun _=>False,fun _=>False⟩ pw (.inl rfl) _ (fun Γ a' w' hf' hs'=>?_) _ w (fr2 _) (PI w));apply Y 0x4a0f;intro hst;apply Y 0x520f;intro hd
 cases c₀
 simp only at hu;subst hu;exact Zm 0x150f
theorem ED (T:TypeId)(sz:Nat)(A:Option Addr)(tl:List Value)(S:Option Addr)(l:List UInt8)(c:Nat)(k:Nat)(hc:l.length≤c)(_hk:(k:Int)≤9223372036854775807):
    du X 258 [ag A 0,.int .i64 (k:Int)] [] [Own T sz A 1 1 (.slice S l.length c::tl)] (b5 [{ v:=pw,recovered:=false }] (fun v R' H'=>v=.slice S k c∧k≤l.length∧R'=[]∧H'=[Own T sz A 1 1 (.slice (bj S c k 1) (l.drop k).length (c-k)::tl)]) (fun R' H'=>l.length<k∧R'=[]∧H'=[])):=by
 refine du.of (X:=X) (fn:=Tryz.f258) Tryz.func258 rfl oa rfl ?_;intro β;apply Zu 0xe956eaa8dbdc9<;>intro
 ·apply Y 0x6de530f6fa68;exact ⟨by omega,rfl,rfl⟩
 apply Y 0x5a1fd8c888e00faa8db40f656eaa8d2d1714f656eaa8df999;refine ⟨rfl,by omega,rfl,?_⟩;rw [List.length_drop];exact Zm 0x2
theorem eA (T:TypeId)(sz:Nat)(A:Option Addr)(tl:List Value)(S:Option Addr)(l:List UInt8)(c:Nat)(hc:l.length≤c):
    du X 231 [ag A 0] [Rd S (U8 l)] [Own T sz A 1 1 (.slice S l.length c::tl)] (b5 [{ v:=pw,recovered:=false }] (fun v R' H'=>v=.int .i64 (be2 l:Int)∧2≤l.length∧R'=[]∧H'=[Own T sz A 1 1 (.slice (bj S c 2 1) (l.drop 2).length (c-2)::tl)]) (fun R' H'=>l.length<2∧R'=[]∧H'=[])):=by
 refine du.of (X:=X) (fn:=Tryz.f231) Tryz.func231 rfl oa rfl ?_;intro β;apply Y 0xf9c9;refine bb (js:=[0]) (js':=[]) (ED T sz A tl S l c 2 hc ob) rfl rfl rfl ob trivial rfl ?_ ?_
 rotate_left;apply Y 0x29;intro h2;apply Y 0x6de;exact ⟨h2,rfl,rfl⟩;apply Y 0x4b;intro h2;apply Y 0x9a2f;intro hb0;apply Y 0xfc6d49;refine sq (ae (k:=0) rfl rfl rfl rfl rfl rfl rfl ob (Src.r 0 rfl) oI) ?_;apply Y 0x190faae;refine sq (HM rfl rfl oe oe) ?_;apply Y 0xfc;refine sq (ae (k:=1) rfl rfl rfl rfl rfl rfl rfl ob (Src.r 0 rfl) oI) ?_;apply Y 0x190faae;refine sq (Ev.cast (HN rfl rfl) (congrArg (Value.int .i64) (Ht l))) ?_;apply Y 0x5a1fd880e;exact ⟨rfl,h2,rfl,rfl⟩
theorem yP (T:TypeId)(A S:Option Addr)(l:List UInt8)(c:Nat)(last size:Int)(hc:l.length≤c):
    du X 260 [ag A 0] [Rd S (U8 l)] [Own T 3 A 1 1 (.slice S l.length c::[.int .i64 last,.int .i64 size])] (b5 [{ v:=pw,recovered:=false }] (fun v R' H'=>ai l last size∧v=.tuple #[.int .i64 (be2 l:Int),.slice (bj (bj S c 2 1) (c-2) 2 1) (be2 (l.drop 2)) (c-2-2)]∧R'=[]∧H'=[Own T 3 A 1 1 (.slice (bj (bj (bj S c 2 1) (c-2) 2 1) (c-2-2) (be2 (l.drop 2)) 1) (((l.drop 2).drop 2).drop (be2 (l.drop 2))).length ((c-2-2)-be2 (l.drop 2))::[.int .i64 ((be2 l:Int)+(be2 (l.drop 2):Int)),.int .i64 size])]) (fun R' H'=>¬ai l last size∧R'=[]∧H'=[])):=by
 refine du.of (X:=X) (fn:=Tryz.f260) Tryz.func260 rfl oa rfl ?_;intro β;apply Y 0x5c8;refine C.join (fun q:Unit=>[(0,ag A 0),(4,.int .i64 (be2 l:Int)),(5,.int .i64 (be2 (l.drop 2):Int))]) (fun q:Unit=>[Rd S (U8 l)]) (fun q:Unit=>[Own T 3 A 1 1 (.slice (bj (bj S c 2 1) (c-2) 2 1) ((l.drop 2).drop 2).length (c-2-2)::[.int .i64 last,.int .i64 size])]) (fun q:Unit=>2≤l.length∧2≤(l.drop 2).length) ?_ ?_
 ·refine rp ?_;apply Zu 0xe81f
  ·apply Zu 0xf00f7a
   ·apply Zu 0x9e0f788d
    ·apply Y 0x78aa;refine LA.alt [3,4] oa ob ⟨⟨_,rfl,?_⟩,⟨_,rfl,?_⟩,trivial⟩
     ·apply Zu 0xd2e
      rotate_left;apply Y 0x29;intro h9;apply Y 0x5c;exact ⟨fun hp=>by unfold ai at hp;omega,rfl,rfl⟩;apply Y 0x4b;intro h9;apply Zu 0xc2ee2e62eaa47e788df2e7a89e78
      rotate_left;apply Y 0x29;intro h9;rw [List.length_drop] at h9;apply Y 0x5c;exact ⟨fun hp=>by unfold ai at hp;omega,rfl,rfl⟩;apply Y 0x4b;intro h13;exact Zm 0x33e82e7a23e7a13e78
     apply Zu 0xae0f7a
     ·apply Zu 0xd2e
      rotate_left;apply Y 0x29;intro h9;apply Y 0x5c;exact ⟨fun hp=>by unfold ai at hp;omega,rfl,rfl⟩;apply Y 0x4b;intro h9;apply Zu 0xc2ee2e62eaa47e788df2e78
      rotate_left;apply Y 0x29;intro h9;rw [List.length_drop] at h9;apply Y 0x5c;exact ⟨fun hp=>by unfold ai at hp;omega,rfl,rfl⟩;apply Y 0x4b;intro h13;exact Zm 0x33e82e7a23e7a13e78
     apply Zu 0xdbe788d
     ·apply Zu 0xd2e
      rotate_left;apply Y 0x29;intro h9;apply Y 0x5c;exact ⟨fun hp=>by unfold ai at hp;omega,rfl,rfl⟩;apply Y 0x4b;intro h9;apply Zu 0xc2ee2e62eaa47e78
      rotate_left;apply Y 0x29;intro h9;rw [List.length_drop] at h9;apply Y 0x5c;exact ⟨fun hp=>by unfold ai at hp;omega,rfl,rfl⟩;apply Y 0x4b;intro h13;exact Zm 0x33e82e7a23e7a13e78
     apply Zu 0xd2ed4e78aa
     rotate_left;apply Y 0x29;intro h9;apply Y 0x5c;exact ⟨fun hp=>by unfold ai at hp;omega,rfl,rfl⟩;apply Y 0x4b;intro h9;apply Zu 0xc2ee2e62e
     rotate_left;apply Y 0x29;intro h9;rw [List.length_drop] at h9;apply Y 0x5c;exact ⟨fun hp=>by unfold ai at hp;omega,rfl,rfl⟩;apply Y 0x4b;intro h13;exact Zm 0x33e82e7a23e7a13e78
    apply Zu 0x291f7a
    ·apply Zu 0xae0f78aa
     ·apply Zu 0xd2e
      rotate_left;apply Y 0x29;intro h9;apply Y 0x5c;exact ⟨fun hp=>by unfold ai at hp;omega,rfl,rfl⟩;apply Y 0x4b;intro h9;apply Zu 0xc2ee2e62eaa47e788df2e78
      rotate_left;apply Y 0x29;intro h9;rw [List.length_drop] at h9;apply Y 0x5c;exact ⟨fun hp=>by unfold ai at hp;omega,rfl,rfl⟩;apply Y 0x4b;intro h13;exact Zm 0x33e82e7a23e7a13e78
     apply Zu 0xdbe788d
     ·apply Zu 0xd2e
      rotate_left;apply Y 0x29;intro h9;apply Y 0x5c;exact ⟨fun hp=>by unfold ai at hp;omega,rfl,rfl⟩;apply Y 0x4b;intro h9;apply Zu 0xc2ee2e62eaa47e78
      rotate_left;apply Y 0x29;intro h9;rw [List.length_drop] at h9;apply Y 0x5c;exact ⟨fun hp=>by unfold ai at hp;omega,rfl,rfl⟩;apply Y 0x4b;intro h13;exact Zm 0x33e82e7a23e7a13e78
     apply Zu 0xd2ed4e78aa
     rotate_left;apply Y 0x29;intro h9;apply Y 0x5c;exact ⟨fun hp=>by unfold ai at hp;omega,rfl,rfl⟩;apply Y 0x4b;intro h9;apply Zu 0xc2ee2e62e
     rotate_left;apply Y 0x29;intro h9;rw [List.length_drop] at h9;apply Y 0x5c;exact ⟨fun hp=>by unfold ai at hp;omega,rfl,rfl⟩;apply Y 0x4b;intro h13;exact Zm 0x33e82e7a23e7a13e78
    apply Zu 0x630f788d
    ·apply Zu 0xdbe78aa
     ·apply Zu 0xd2e
      rotate_left;apply Y 0x29;intro h9;apply Y 0x5c;exact ⟨fun hp=>by unfold ai at hp;omega,rfl,rfl⟩;apply Y 0x4b;intro h9;apply Zu 0xc2ee2e62eaa47e78
      rotate_left;apply Y 0x29;intro h9;rw [List.length_drop] at h9;apply Y 0x5c;exact ⟨fun hp=>by unfold ai at hp;omega,rfl,rfl⟩;apply Y 0x4b;intro h13;exact Zm 0x33e82e7a23e7a13e78
     apply Zu 0xd2ed4e78aa
     rotate_left;apply Y 0x29;intro h9;apply Y 0x5c;exact ⟨fun hp=>by unfold ai at hp;omega,rfl,rfl⟩;apply Y 0x4b;intro h9;apply Zu 0xc2ee2e62e
     rotate_left;apply Y 0x29;intro h9;rw [List.length_drop] at h9;apply Y 0x5c;exact ⟨fun hp=>by unfold ai at hp;omega,rfl,rfl⟩;apply Y 0x4b;intro h13;exact Zm 0x33e82e7a23e7a13e78
    apply Zu 0xd2ed4e78aa37e78aa
    rotate_left;apply Y 0x29;intro h9;apply Y 0x5c;exact ⟨fun hp=>by unfold ai at hp;omega,rfl,rfl⟩;apply Y 0x4b;intro h9;apply Zu 0xc2ee2e62e
    rotate_left;apply Y 0x29;intro h9;rw [List.length_drop] at h9;apply Y 0x5c;exact ⟨fun hp=>by unfold ai at hp;omega,rfl,rfl⟩;apply Y 0x4b;intro h13;exact Zm 0x33e82e7a23e7a13e78
   apply Zu 0xb8e7a
   ·apply Zu 0x291f788d
    ·apply Zu 0xae0f78aa
     ·apply Zu 0xd2e
      rotate_left;apply Y 0x29;intro h9;apply Y 0x5c;exact ⟨fun hp=>by unfold ai at hp;omega,rfl,rfl⟩;apply Y 0x4b;intro h9;apply Zu 0xc2ee2e62eaa47e788df2e78
      rotate_left;apply Y 0x29;intro h9;rw [List.length_drop] at h9;apply Y 0x5c;exact ⟨fun hp=>by unfold ai at hp;omega,rfl,rfl⟩;apply Y 0x4b;intro h13;exact Zm 0x33e82e7a23e7a13e78
     apply Zu 0xdbe788d
     ·apply Zu 0xd2e
      rotate_left;apply Y 0x29;intro h9;apply Y 0x5c;exact ⟨fun hp=>by unfold ai at hp;omega,rfl,rfl⟩;apply Y 0x4b;intro h9;apply Zu 0xc2ee2e62eaa47e78
      rotate_left;apply Y 0x29;intro h9;rw [List.length_drop] at h9;apply Y 0x5c;exact ⟨fun hp=>by unfold ai at hp;omega,rfl,rfl⟩;apply Y 0x4b;intro h13;exact Zm 0x33e82e7a23e7a13e78
     apply Zu 0xd2ed4e78aa
     rotate_left;apply Y 0x29;intro h9;apply Y 0x5c;exact ⟨fun hp=>by unfold ai at hp;omega,rfl,rfl⟩;apply Y 0x4b;intro h9;apply Zu 0xc2ee2e62e
     rotate_left;apply Y 0x29;intro h9;rw [List.length_drop] at h9;apply Y 0x5c;exact ⟨fun hp=>by unfold ai at hp;omega,rfl,rfl⟩;apply Y 0x4b;intro h13;exact Zm 0x33e82e7a23e7a13e78
    apply Zu 0x630f788d
    ·apply Zu 0xdbe78aa
     ·apply Zu 0xd2e
      rotate_left;apply Y 0x29;intro h9;apply Y 0x5c;exact ⟨fun hp=>by unfold ai at hp;omega,rfl,rfl⟩;apply Y 0x4b;intro h9;apply Zu 0xc2ee2e62eaa47e78
      rotate_left;apply Y 0x29;intro h9;rw [List.length_drop] at h9;apply Y 0x5c;exact ⟨fun hp=>by unfold ai at hp;omega,rfl,rfl⟩;apply Y 0x4b;intro h13;exact Zm 0x33e82e7a23e7a13e78
     apply Zu 0xd2ed4e78aa
     rotate_left;apply Y 0x29;intro h9;apply Y 0x5c;exact ⟨fun hp=>by unfold ai at hp;omega,rfl,rfl⟩;apply Y 0x4b;intro h9;apply Zu 0xc2ee2e62e
     rotate_left;apply Y 0x29;intro h9;rw [List.length_drop] at h9;apply Y 0x5c;exact ⟨fun hp=>by unfold ai at hp;omega,rfl,rfl⟩;apply Y 0x4b;intro h13;exact Zm 0x33e82e7a23e7a13e78
    apply Zu 0xd2ed4e78aa37e78aa
    rotate_left;apply Y 0x29;intro h9;apply Y 0x5c;exact ⟨fun hp=>by unfold ai at hp;omega,rfl,rfl⟩;apply Y 0x4b;intro h9;apply Zu 0xc2ee2e62e
    rotate_left;apply Y 0x29;intro h9;rw [List.length_drop] at h9;apply Y 0x5c;exact ⟨fun hp=>by unfold ai at hp;omega,rfl,rfl⟩;apply Y 0x4b;intro h13;exact Zm 0x33e82e7a23e7a13e78
   apply Zu 0x191f788d
   ·apply Zu 0x630f788d
    ·apply Zu 0xdbe78aa
     ·apply Zu 0xd2e
      rotate_left;apply Y 0x29;intro h9;apply Y 0x5c;exact ⟨fun hp=>by unfold ai at hp;omega,rfl,rfl⟩;apply Y 0x4b;intro h9;apply Zu 0xc2ee2e62eaa47e78
      rotate_left;apply Y 0x29;intro h9;rw [List.length_drop] at h9;apply Y 0x5c;exact ⟨fun hp=>by unfold ai at hp;omega,rfl,rfl⟩;apply Y 0x4b;intro h13;exact Zm 0x33e82e7a23e7a13e78
     apply Zu 0xd2ed4e78aa
     rotate_left;apply Y 0x29;intro h9;apply Y 0x5c;exact ⟨fun hp=>by unfold ai at hp;omega,rfl,rfl⟩;apply Y 0x4b;intro h9;apply Zu 0xc2ee2e62e
     rotate_left;apply Y 0x29;intro h9;rw [List.length_drop] at h9;apply Y 0x5c;exact ⟨fun hp=>by unfold ai at hp;omega,rfl,rfl⟩;apply Y 0x4b;intro h13;exact Zm 0x33e82e7a23e7a13e78
    apply Zu 0xd2ed4e78aa37e78aa
    rotate_left;apply Y 0x29;intro h9;apply Y 0x5c;exact ⟨fun hp=>by unfold ai at hp;omega,rfl,rfl⟩;apply Y 0x4b;intro h9;apply Zu 0xc2ee2e62e
    rotate_left;apply Y 0x29;intro h9;rw [List.length_drop] at h9;apply Y 0x5c;exact ⟨fun hp=>by unfold ai at hp;omega,rfl,rfl⟩;apply Y 0x4b;intro h13;exact Zm 0x33e82e7a23e7a13e78
   apply Zu 0xd2ed4e78aa37e788d16e78aa
   rotate_left;apply Y 0x29;intro h9;apply Y 0x5c;exact ⟨fun hp=>by unfold ai at hp;omega,rfl,rfl⟩;apply Y 0x4b;intro h9;apply Zu 0xc2ee2e62e
   rotate_left;apply Y 0x29;intro h9;rw [List.length_drop] at h9;apply Y 0x5c;exact ⟨fun hp=>by unfold ai at hp;omega,rfl,rfl⟩;apply Y 0x4b;intro h13;exact Zm 0x33e82e7a23e7a13e78
  apply Zu 0x7e0f7a
  ·apply Zu 0xb8e7a
   ·apply Zu 0x291f788d
    ·apply Zu 0xae0f78aa
     ·apply Zu 0xd2e
      rotate_left;apply Y 0x29;intro h9;apply Y 0x5c;exact ⟨fun hp=>by unfold ai at hp;omega,rfl,rfl⟩;apply Y 0x4b;intro h9;apply Zu 0xc2ee2e62eaa47e788df2e78
      rotate_left;apply Y 0x29;intro h9;rw [List.length_drop] at h9;apply Y 0x5c;exact ⟨fun hp=>by unfold ai at hp;omega,rfl,rfl⟩;apply Y 0x4b;intro h13;exact Zm 0x33e82e7a23e7a13e78
     apply Zu 0xdbe788d
     ·apply Zu 0xd2e
      rotate_left;apply Y 0x29;intro h9;apply Y 0x5c;exact ⟨fun hp=>by unfold ai at hp;omega,rfl,rfl⟩;apply Y 0x4b;intro h9;apply Zu 0xc2ee2e62eaa47e78
      rotate_left;apply Y 0x29;intro h9;rw [List.length_drop] at h9;apply Y 0x5c;exact ⟨fun hp=>by unfold ai at hp;omega,rfl,rfl⟩;apply Y 0x4b;intro h13;exact Zm 0x33e82e7a23e7a13e78
     apply Zu 0xd2ed4e78aa
     rotate_left;apply Y 0x29;intro h9;apply Y 0x5c;exact ⟨fun hp=>by unfold ai at hp;omega,rfl,rfl⟩;apply Y 0x4b;intro h9;apply Zu 0xc2ee2e62e
     rotate_left;apply Y 0x29;intro h9;rw [List.length_drop] at h9;apply Y 0x5c;exact ⟨fun hp=>by unfold ai at hp;omega,rfl,rfl⟩;apply Y 0x4b;intro h13;exact Zm 0x33e82e7a23e7a13e78
    apply Zu 0x630f788d
    ·apply Zu 0xdbe78aa
     ·apply Zu 0xd2e
      rotate_left;apply Y 0x29;intro h9;apply Y 0x5c;exact ⟨fun hp=>by unfold ai at hp;omega,rfl,rfl⟩;apply Y 0x4b;intro h9;apply Zu 0xc2ee2e62eaa47e78
      rotate_left;apply Y 0x29;intro h9;rw [List.length_drop] at h9;apply Y 0x5c;exact ⟨fun hp=>by unfold ai at hp;omega,rfl,rfl⟩;apply Y 0x4b;intro h13;exact Zm 0x33e82e7a23e7a13e78
     apply Zu 0xd2ed4e78aa
     rotate_left;apply Y 0x29;intro h9;apply Y 0x5c;exact ⟨fun hp=>by unfold ai at hp;omega,rfl,rfl⟩;apply Y 0x4b;intro h9;apply Zu 0xc2ee2e62e
     rotate_left;apply Y 0x29;intro h9;rw [List.length_drop] at h9;apply Y 0x5c;exact ⟨fun hp=>by unfold ai at hp;omega,rfl,rfl⟩;apply Y 0x4b;intro h13;exact Zm 0x33e82e7a23e7a13e78
    apply Zu 0xd2ed4e78aa37e78aa
    rotate_left;apply Y 0x29;intro h9;apply Y 0x5c;exact ⟨fun hp=>by unfold ai at hp;omega,rfl,rfl⟩;apply Y 0x4b;intro h9;apply Zu 0xc2ee2e62e
    rotate_left;apply Y 0x29;intro h9;rw [List.length_drop] at h9;apply Y 0x5c;exact ⟨fun hp=>by unfold ai at hp;omega,rfl,rfl⟩;apply Y 0x4b;intro h13;exact Zm 0x33e82e7a23e7a13e78
   apply Zu 0x191f788d
   ·apply Zu 0x630f788d
    ·apply Zu 0xdbe78aa
     ·apply Zu 0xd2e
      rotate_left;apply Y 0x29;intro h9;apply Y 0x5c;exact ⟨fun hp=>by unfold ai at hp;omega,rfl,rfl⟩;apply Y 0x4b;intro h9;apply Zu 0xc2ee2e62eaa47e78
      rotate_left;apply Y 0x29;intro h9;rw [List.length_drop] at h9;apply Y 0x5c;exact ⟨fun hp=>by unfold ai at hp;omega,rfl,rfl⟩;apply Y 0x4b;intro h13;exact Zm 0x33e82e7a23e7a13e78
     apply Zu 0xd2ed4e78aa
     rotate_left;apply Y 0x29;intro h9;apply Y 0x5c;exact ⟨fun hp=>by unfold ai at hp;omega,rfl,rfl⟩;apply Y 0x4b;intro h9;apply Zu 0xc2ee2e62e
     rotate_left;apply Y 0x29;intro h9;rw [List.length_drop] at h9;apply Y 0x5c;exact ⟨fun hp=>by unfold ai at hp;omega,rfl,rfl⟩;apply Y 0x4b;intro h13;exact Zm 0x33e82e7a23e7a13e78
    apply Zu 0xd2ed4e78aa37e78aa
    rotate_left;apply Y 0x29;intro h9;apply Y 0x5c;exact ⟨fun hp=>by unfold ai at hp;omega,rfl,rfl⟩;apply Y 0x4b;intro h9;apply Zu 0xc2ee2e62e
    rotate_left;apply Y 0x29;intro h9;rw [List.length_drop] at h9;apply Y 0x5c;exact ⟨fun hp=>by unfold ai at hp;omega,rfl,rfl⟩;apply Y 0x4b;intro h13;exact Zm 0x33e82e7a23e7a13e78
   apply Zu 0xd2ed4e78aa37e788d16e78aa
   rotate_left;apply Y 0x29;intro h9;apply Y 0x5c;exact ⟨fun hp=>by unfold ai at hp;omega,rfl,rfl⟩;apply Y 0x4b;intro h9;apply Zu 0xc2ee2e62e
   rotate_left;apply Y 0x29;intro h9;rw [List.length_drop] at h9;apply Y 0x5c;exact ⟨fun hp=>by unfold ai at hp;omega,rfl,rfl⟩;apply Y 0x4b;intro h13;exact Zm 0x33e82e7a23e7a13e78
  apply Y 0x788d;refine LA.alt [0,6] oa ob ⟨⟨_,rfl,?_⟩,⟨_,rfl,?_⟩,trivial⟩
  ·apply Zu 0x191f7a
   ·apply Zu 0x630f788d
    ·apply Zu 0xdbe78aa
     ·apply Zu 0xd2e
      rotate_left;apply Y 0x29;intro h9;apply Y 0x5c;exact ⟨fun hp=>by unfold ai at hp;omega,rfl,rfl⟩;apply Y 0x4b;intro h9;apply Zu 0xc2ee2e62eaa47e78
      rotate_left;apply Y 0x29;intro h9;rw [List.length_drop] at h9;apply Y 0x5c;exact ⟨fun hp=>by unfold ai at hp;omega,rfl,rfl⟩;apply Y 0x4b;intro h13;exact Zm 0x33e82e7a23e7a13e78
     apply Zu 0xd2ed4e78aa
     rotate_left;apply Y 0x29;intro h9;apply Y 0x5c;exact ⟨fun hp=>by unfold ai at hp;omega,rfl,rfl⟩;apply Y 0x4b;intro h9;apply Zu 0xc2ee2e62e
     rotate_left;apply Y 0x29;intro h9;rw [List.length_drop] at h9;apply Y 0x5c;exact ⟨fun hp=>by unfold ai at hp;omega,rfl,rfl⟩;apply Y 0x4b;intro h13;exact Zm 0x33e82e7a23e7a13e78
    apply Zu 0xd2ed4e78aa37e78aa
    rotate_left;apply Y 0x29;intro h9;apply Y 0x5c;exact ⟨fun hp=>by unfold ai at hp;omega,rfl,rfl⟩;apply Y 0x4b;intro h9;apply Zu 0xc2ee2e62e
    rotate_left;apply Y 0x29;intro h9;rw [List.length_drop] at h9;apply Y 0x5c;exact ⟨fun hp=>by unfold ai at hp;omega,rfl,rfl⟩;apply Y 0x4b;intro h13;exact Zm 0x33e82e7a23e7a13e78
   apply Zu 0xd2ed4e78aa37e788d16e78aa
   rotate_left;apply Y 0x29;intro h9;apply Y 0x5c;exact ⟨fun hp=>by unfold ai at hp;omega,rfl,rfl⟩;apply Y 0x4b;intro h9;apply Zu 0xc2ee2e62e
   rotate_left;apply Y 0x29;intro h9;rw [List.length_drop] at h9;apply Y 0x5c;exact ⟨fun hp=>by unfold ai at hp;omega,rfl,rfl⟩;apply Y 0x4b;intro h13;exact Zm 0x33e82e7a23e7a13e78
  apply Zu 0xd2ed4e78aa37e788d16e7a8e0f78aa
  rotate_left;apply Y 0x29;intro h9;apply Y 0x5c;exact ⟨fun hp=>by unfold ai at hp;omega,rfl,rfl⟩;apply Y 0x4b;intro h9;apply Zu 0xc2ee2e62e
  rotate_left;apply Y 0x29;intro h9;rw [List.length_drop] at h9;apply Y 0x5c;exact ⟨fun hp=>by unfold ai at hp;omega,rfl,rfl⟩;apply Y 0x4b;intro h13;exact Zm 0x33e82e7a23e7a13e78
 rintro _ ⟨h9,h13⟩;have hf:=kx l;have hn:=kx (l.drop 2);rw [List.length_drop] at h13;apply Zu 0x503f4856eaa8dbd6a<;>intro
 ·apply Y 0x139eadd;refine C.cond rfl (fun _=>?_) (fun h=>by cases h);apply Y 0x6de530f6fa68;exact ⟨fun hp=>by unfold ai at hp;omega,rfl,rfl⟩
 apply Zu 0xed0fb8b9<;>intro
 ·apply Y 0x13939;refine C.cond rfl (fun _=>?_) (fun h=>by cases h);apply Y 0x6de530f6fa68;exact ⟨fun hp=>by unfold ai at hp;omega,rfl,rfl⟩
 apply Zu 0xe9456e4aa48db9caed<;>intro
 ·apply Y 0x6de530f6fa68;exact ⟨fun hp=>by unfold ai at hp;omega,rfl,rfl⟩
 apply Y 0x6aa8d2d88e00faa8dcab83c;refine bb (js:=[0]) (js':=[]) (ED T 3 A [.int .i64 ((be2 l:Int)+(be2 (l.drop 2):Int)),.int .i64 size] (bj (bj S c 2 1) (c-2) 2 1) ((l.drop 2).drop 2) (c-2-2) (be2 (l.drop 2)) QW oe) rfl rfl rfl ob trivial rfl ?_ ?_
 rotate_left;apply Y 0x29;intro h47;rw [List.length_drop,List.length_drop] at h47;apply Y 0x6de;exact ⟨fun hp=>by unfold ai at hp;omega,rfl,rfl⟩;apply Y 0x4b;intro h47;rw [List.length_drop,List.length_drop] at h47;apply Y 0xd838;refine fo (js:=[]) (hs:=[0]) (vs:=[_,_]) rfl rt ob ?_;exact ⟨by unfold ai;omega,rfl,rfl,rfl⟩
theorem IG (p:Nat)(B:Option Addr)(b:List UInt8)(n bc:Nat)(CA O:Option Addr)(out:List UInt8)(m oc:Nat)(hn:b.length=n)(hm:out.length=m)(hfit:p+b.length≤m)(ho:m≤oc):
    Ctr X 234 [.int .i64 (p:Int),.slice B n bc,ag CA 0] [Rd B (U8 b)] [Own 24 1 CA 1 1 [.slice O m oc],Own 5 1 O m oc (U8 out)] (fun v R' H'=>v=.tuple #[]∧R'=[]∧H'=[Own 24 1 CA 1 1 [.slice O m oc],Own 5 1 O m oc (U8 (rQ out p b))]):=by
 refine co Tryz.func234 ?_;intro β;apply Y 0x656e68;refine sp (bw (l:=p) rfl rfl rfl rfl rfl rfl oe) ?_;apply Y 0x6;refine L.copy (j:=1) (o:=p) rfl rfl rfl rfl rfl (fun g hg hlen=>by rw [aG] at hlen;rw [hg];exact FL oe) rfl rfl (Src.r 0 rfl) oI (bN b) (by rw [aG,aG];omega) rfl ?_;apply Y 0x270ffd;refine qrt [] [0,1] [] rfl trivial ?_;refine ⟨rfl,rfl,?_⟩;rw [← Rp];exact Zm 0x2
theorem IT (p:Nat)(B:Option Addr)(n bc:Nat):
    Ctr X 233 [.int .i64 (p:Int),.slice B n bc] [] [] (fun v R' H'=>v=.tuple #[]∧R'=[]∧H'=[]):=by
 refine co Tryz.func233 ?_;intro β;apply Y 0x270f5a;refine qrt [] [] [] rfl trivial ?_;exact Zm 0x53e
theorem Gd (RB:Option Addr)(rec:List UInt8)(rc:Nat)(size:Int)(hrc:rec.length≤rc)(hrl:rec.length≤9223372036854775807)(CA O:Option Addr)(out:List UInt8)(oc:Nat)(ho:out.length≤oc)(hsz:size=(out.length:Int)):
    Ctr X 232 [.slice RB rec.length rc,.int .i64 size,.func (.func 234) #[] #[ag CA 0]] [Rd RB (U8 rec)] [Own 24 1 CA 1 1 [.slice O out.length oc],Own 5 1 O out.length oc (U8 out)] (fun v R' H'=>v=.bool (aU rec size).isSome∧R'=[]∧∃ out':List UInt8,out'.length=out.length∧(∀ ps,aU rec size=some ps→out'=cR out ps)∧H'=[Own 24 1 CA 1 1 [.slice O out.length oc],Own 5 1 O out.length oc (U8 out')]):=by
 apply Y 0x8f2f;intro β;apply Y 0x7c9;refine L.defer ?_;apply Zu 0x471f48bd88<;>intro
 ·apply Y 0x11d;refine C.cond rfl (fun _=>?_) (fun h=>by cases h);apply Y 0x7b0f17e;intro hE;apply Y 0xd42f;intro hlen;apply Y 0x590fb63f;exact ⟨_,hlen,(fun ps h=>by rw [hE] at h;cases h),rfl⟩
 apply Zu 0xe949fe45be44d1fb9<;>intro
 ·apply Y 0x7b0f17e;intro hE;apply Y 0xd42f;intro hlen;apply Y 0x590fb63f;exact ⟨_,hlen,(fun ps h=>by rw [hE] at h;cases h),rfl⟩
 apply Y 0x2bfa6fa914ff999;intro A23;apply Y 0x549;refine C.le (Γ':=[(0,.slice RB rec.length rc),(1,.int .i64 size),(2,.func (.func 234) #[] #[ag CA 0]),(6,.bool false),(7,ag A23 0)]) (R':=[Rd RB (U8 rec)]) (H':=[Own 334 3 A23 1 1 [.slice (bj RB rc 1 1) (rec.drop 1).length (rc-1),.int .i64 0,.int .i64 size],Own 24 1 CA 1 1 [.slice O out.length oc],Own 5 1 O out.length oc (U8 out)]) (by exact lk [0] [2,0,1] (hh:=⟨(congrArg some Q7),rfl,rfl,trivial⟩)) ?_;apply Y 0xd52f;intro hbig;apply Y 0x423faa8d2c;refine bb (js:=[0]) (js':=[1,2]) (eA 334 3 A23 [.int .i64 0,.int .i64 size] (bj RB rc 1 1) (rec.drop 1) (rc-1) oo) rfl rfl rfl ob hcx rfl ?_ ?_
 rotate_left;apply Y 0x29;intro h27;rw [List.length_drop] at h27;exact Zm 0x186f0f87e;apply Y 0x4b;intro h27;apply Y 0x441fba1;intro hn0;apply Y 0x1f2f;refine lp [0,1,2,6,7,27] [_,_,_,_,_,_] (fun q:Nat×Option Addr×List UInt8×Nat×Int×List Pc=>[(28,.int .i64 (q.1:Int))]) (kzz [_] [] fun q=>[Rd q.2.1 (U8 q.2.2.1)]) (fun q=>[Own 334 3 A23 1 1 [.slice q.2.1 q.2.2.1.length q.2.2.2.1,.int .i64 q.2.2.2.2.1,.int .i64 size],Own 24 1 CA 1 1 [.slice O out.length oc],Own 5 1 O out.length oc (U8 (cR out q.2.2.2.2.2))]) (fun q=>q.1≤(be2 (rec.drop 1))∧q.2.2.1.length≤q.2.2.2.1∧gb (be2 (rec.drop 1)) size ((rec.drop 1).drop 2) ((be2 (rec.drop 1))-q.1) q.2.2.1 q.2.2.2.2.1 q.2.2.2.2.2∧(cR out q.2.2.2.2.2).length=out.length) (fun q=>(be2 (rec.drop 1))-q.1) (0,(bj (bj RB rc 1 1) (rc-1) 2 1),((rec.drop 1).drop 2),(rc-1-2),0,[]) ⟨Nat.zero_le _,by dsimp only;rw [List.length_drop,List.length_drop];omega,gb.start _ _ _,rfl⟩ (lk [2,0] [0,1,2]) ?_;apply Y 0x5c2f;intro k S l c last ps hk hc hh hlen
 dsimp only at hk hc hh hlen ⊢;apply Zu 0x7920e<;>intro
 ·apply Y 0x9c89;refine bb (js:=[0]) (js':=[1,2]) (yP 334 A23 S l c last size hc) rfl rfl rfl ob hcx rfl ?_ ?_
  rotate_left;apply Y 0x29;intro hp;apply Y 0x83ee90f;have hE:=iQ (rec:=rec) (size:=size) (gb.bad (by rw [show (be2 (rec.drop 1))-k=(be2 (rec.drop 1))-(k+1)+1 from by omega] at hh;exact hh) hp);apply Y 0x590f963f;exact ⟨_,hlen,(fun ps h=>by rw [hE] at h;cases h),rfl⟩;apply Y 0x71e;intro hp;have hp1:=hp
  unfold ai at hp1;apply Y 0x223f323f48;refine fZ (js:=[1,2]) (js':=[0]) (IG (be2 l) (bj (bj S c 2 1) (c-2) 2 1) (((l.drop 2).drop 2).take (be2 (l.drop 2))) (be2 (l.drop 2)) (c-2-2) CA O (cR out ps) out.length oc q7 hlen q7 oe) rfl rfl rfl rfl rfl ob hcx rfl ?_;apply Y 0x863fd0efda8;refine QE.round (i:=(k,S,l,c,last,ps)) ((k+1,(bj (bj (bj S c 2 1) (c-2) 2 1) (c-2-2) (be2 (l.drop 2)) 1),(((l.drop 2).drop 2).drop (be2 (l.drop 2))),((c-2-2)-(be2 (l.drop 2))),(be2 l:Int)+((be2 (l.drop 2)):Int),ps++[(be2 l,((l.drop 2).drop 2).take (be2 (l.drop 2)))])) (by exact ⟨by dsimp only;omega,by dsimp only;rw [List.length_drop,List.length_drop,List.length_drop];omega,gb.next Qa hp,by dsimp only;rw [eG,gp (by dsimp only;rw [List.length_take,List.length_drop,List.length_drop];omega)];exact hlen⟩) ou (by exact lk [3,0] [2,0,1] (hh:=⟨rfl,rfl,(congrArg some (by rw [eG])),trivial⟩))
 obtain rfl:k=(be2 (rec.drop 1)):=oe;have hdone:=gb.done (by rw [Nat.sub_self] at hh;exact hh);apply Y 0xaa8df9a9;refine bb (js:=[0]) (js':=[1,2]) (eA 334 3 A23 [.int .i64 last,.int .i64 size] S l c hc) rfl rfl rfl ob hcx rfl ?_ ?_
 rotate_left;apply Y 0x29;intro h40;apply Y 0x8b0f;intro hE;rw [if_neg oe] at hE;apply Y 0x590f963f83e;exact ⟨_,hlen,(fun ps h=>by rw [hE] at h;cases h),rfl⟩;apply Y 0x4b;intro h40;apply Y 0x8b0f;intro hE;apply Zu 0x313f4848<;>intro hg44
 ·apply Y 0xc63fd8e8b956e4aa4aa48db9;exact ⟨congrArg Value.bool (Fg hE h40 hg44),rfl,_,hlen,Jo hE,rfl⟩
 apply Y 0xd8389a39;rw [if_neg oe] at hE;apply Y 0x590fc63f;exact ⟨_,hlen,(fun ps h=>by rw [hE] at h;cases h),rfl⟩
theorem Gf (RB:Option Addr)(rec:List UInt8)(rc:Nat)(size:Int)(hrc:rec.length≤rc)(hrl:rec.length≤9223372036854775807)(_hs1:size≤1000000):
    Ctr X 232 [.slice RB rec.length rc,.int .i64 size,.func (.func 233) #[] #[]] [Rd RB (U8 rec)] [] (fun v R' H'=>v=.bool (aU rec size).isSome∧R'=[]∧H'=[]):=by
 apply Y 0x8f2f;intro β;apply Y 0x7c9;refine L.defer ?_;apply Zu 0x471f48bd88<;>intro
 ·apply Y 0x11d;refine C.cond rfl (fun _=>?_) (fun h=>by cases h);apply Y 0x7b0f17e;intro hE;exact Zm 0x360f9f0f
 apply Zu 0xe949fe45be44d1fb9<;>intro
 ·apply Y 0x7b0f17e;intro hE;exact Zm 0x360f9f0f
 apply Y 0x2bfa6fa914ff999;intro A23;apply Y 0x549;refine C.le (Γ':=[(0,.slice RB rec.length rc),(1,.int .i64 size),(2,.func (.func 233) #[] #[]),(6,.bool false),(7,ag A23 0)]) (R':=[Rd RB (U8 rec)]) (H':=[Own 334 3 A23 1 1 [.slice (bj RB rc 1 1) (rec.drop 1).length (rc-1),.int .i64 0,.int .i64 size]]) (by exact lk [0] [0] (hh:=⟨(congrArg some Q7),trivial⟩)) ?_;apply Y 0xd52f;intro hbig;apply Y 0x423faa8d2c;refine bb (js:=[0]) (js':=[]) (eA 334 3 A23 [.int .i64 0,.int .i64 size] (bj RB rc 1 1) (rec.drop 1) (rc-1) oo) rfl rfl rfl ob hcx rfl ?_ ?_
 rotate_left;apply Y 0x29;intro h27;rw [List.length_drop] at h27;exact Zm 0x186f0f87e;apply Y 0x4b;intro h27;apply Y 0x441fba1;intro hn0;apply Y 0x1f2f;refine lp [0,1,2,6,7,27] [_,_,_,_,_,_] (fun q:Nat×Option Addr×List UInt8×Nat×Int×List Pc=>[(28,.int .i64 (q.1:Int))]) (kzz [_] [] fun q=>[Rd q.2.1 (U8 q.2.2.1)]) (fun q=>[Own 334 3 A23 1 1 [.slice q.2.1 q.2.2.1.length q.2.2.2.1,.int .i64 q.2.2.2.2.1,.int .i64 size]]) (fun q=>q.1≤(be2 (rec.drop 1))∧q.2.2.1.length≤q.2.2.2.1∧gb (be2 (rec.drop 1)) size ((rec.drop 1).drop 2) ((be2 (rec.drop 1))-q.1) q.2.2.1 q.2.2.2.2.1 q.2.2.2.2.2) (fun q=>(be2 (rec.drop 1))-q.1) (0,(bj (bj RB rc 1 1) (rc-1) 2 1),((rec.drop 1).drop 2),(rc-1-2),0,[]) ⟨Nat.zero_le _,by dsimp only;rw [List.length_drop,List.length_drop];omega,gb.start _ _ _⟩ (lk [2,0] [0]) ?_;rintro ⟨k,S,l,c,last,ps⟩ ⟨hk,hc,hh⟩
 dsimp only at hk hc hh ⊢;apply Zu 0x7920e<;>intro
 ·apply Y 0x9c89;refine bb (js:=[0]) (js':=[]) (yP 334 A23 S l c last size hc) rfl rfl rfl ob hcx rfl ?_ ?_
  rotate_left;apply Y 0x29;intro hp;apply Y 0x83ee90f;have hE:=iQ (rec:=rec) (size:=size) (gb.bad (by rw [show (be2 (rec.drop 1))-k=(be2 (rec.drop 1))-(k+1)+1 from by omega] at hh;exact hh) hp);exact Zm 0x360f6f0f;apply Y 0x71e;intro hp;have hp1:=hp
  unfold ai at hp1;apply Y 0x223f323f48;refine fZ (js:=[]) (js':=[0]) (IT (be2 l) (bj (bj S c 2 1) (c-2) 2 1) (be2 (l.drop 2)) (c-2-2)) rfl rfl rfl rfl rfl ob trivial rfl ?_;apply Y 0x863fd0efda8;refine QE.round (i:=(k,S,l,c,last,ps)) ((k+1,(bj (bj (bj S c 2 1) (c-2) 2 1) (c-2-2) (be2 (l.drop 2)) 1),(((l.drop 2).drop 2).drop (be2 (l.drop 2))),((c-2-2)-(be2 (l.drop 2))),(be2 l:Int)+((be2 (l.drop 2)):Int),ps++[(be2 l,((l.drop 2).drop 2).take (be2 (l.drop 2)))])) (by exact ⟨by dsimp only;omega,by dsimp only;rw [List.length_drop,List.length_drop,List.length_drop];omega,gb.next Qa hp⟩) ou (lk [3,0] [0])
 obtain rfl:k=(be2 (rec.drop 1)):=oe;have hdone:=gb.done (by rw [Nat.sub_self] at hh;exact hh);apply Y 0xaa8df9a9;refine bb (js:=[0]) (js':=[]) (eA 334 3 A23 [.int .i64 last,.int .i64 size] S l c hc) rfl rfl rfl ob hcx rfl ?_ ?_
 rotate_left;apply Y 0x29;intro h40;apply Y 0x8b0f;intro hE;rw [if_neg oe] at hE;exact Zm 0x360f6f0f83e;apply Y 0x4b;intro h40;apply Y 0x8b0f;intro hE;apply Zu 0x313f4848<;>intro hg44
 ·apply Y 0x9f0fd8e8b956e4aa4aa48db9;exact ⟨congrArg Value.bool (Fg hE h40 hg44),rfl,rfl⟩
 apply Y 0xd8389a39;rw [if_neg oe] at hE;exact Zm 0x360f9f0f
def StR (A5:Option Addr)(s:List (Nat×Nat)×Option Addr×Nat):List Pr:=[Own 220 1 A5 1 1 [.slice s.2.1 s.1.length s.2.2],Own 223 2 s.2.1 s.1.length s.2.2 (a7 s.1)]
def Ru (x:Nat×Nat):List Value:=[.agg (List.toArray [.int .i64 (x.1:Int),.int .i64 (x.2:Int)])]
def PL (s:List (Nat×Nat)×Option Addr×Nat)(x:Nat×Nat)(s2:List (Nat×Nat)×Option Addr×Nat):Prop:=s2.1=s.1++[x]
def Ni (s:List (Nat×Nat)×Option Addr×Nat)(_x:Nat×Nat):Prop:=s.1.length≤200000
theorem vf {a b:List UInt8}{j:Nat}(h:a.length≤j∨(j<a.length∧a.getD j 0=b.getD j 0))(hj:j≤a.length:=by omega):aE a b (min (j+1) a.length)=aE a b j:=by
 rcases h with h|⟨h,he⟩
 ·rw [Nat.min_eq_right oe]
  congr 1;exact Zm 0x18
 rw [Nat.min_eq_left oe,aE,if_pos he]
theorem Hj {s:List (Nat×Nat)}{k j:Nat}(h:∀ x∈s,x.2<k)(hkj:k≤j):∀ x∈s++[(k,j)],x.2<j+1:=by
 intro x hx
 rcases List.mem_append.1 hx with hx|hx
 ·have:=h x hx;exact Zm 0x18
 simp only [List.mem_singleton] at hx;subst hx
 exact Nat.lt_succ_self _
theorem xv (s:List (Nat×Nat))(i:Nat):(gi s i).length≤s.length+1:=by
 unfold gi
 split
 ·split<;>simp
 exact Zm 0x81e
theorem vj (a b:List UInt8):∀ k,(aE a b k).length≤k
  |0=>Nat.le_refl _
  |k+1=>by
    rw [aE]
    have:=vj a b k
    split
    · omega
    · have:=xv (aE a b k) k;omega
theorem I5 (l:Nat)(r:Loop)(PA PB:Option Addr)(SA SB:Option Addr)(a b:List UInt8)(ca cb:Nat)(hab:a.length=b.length)(hal:a.length≤100000)(A5:Option Addr)(hy:sZ X l r Ru (StR A5) PL Ni):
    Ctr X 278 [.func (.yield l) #[] #[],ag PA 0,ag PB 0] [Rd PA [.slice SA a.length ca],Rd PB [.slice SB b.length cb],Rd SA (U8 a),Rd SB (U8 b)] [dr l r,Own 220 1 A5 1 1 [.slice none ([]:List (Nat×Nat)).length 0],Own 223 2 none ([]:List (Nat×Nat)).length 0 (a7 ([]:List (Nat×Nat)))] (fun v R' H'=>R'=[]∧∃ (O:Option Addr) (c:Nat),H'=dr l r::StR A5 (aE a b a.length,O,c)):=by
 refine co Tryz.func278 ?_;intro β;apply Y 0xad;refine lp [0,1,2] [_,_,_] (fun q:Nat×List (Nat×Nat)×Option Addr×Nat=>[(4,.int .i64 (q.1:Int))]) (kz [_,_,_,_]) (fun q=>[dr l r,Own 220 1 A5 1 1 [.slice q.2.2.1 q.2.1.length q.2.2.2],Own 223 2 q.2.2.1 q.2.1.length q.2.2.2 (a7 q.2.1)]) (fun q=>q.1≤a.length+1∧q.2.1=aE a b (min q.1 a.length)∧∀ x∈q.2.1,x.2<q.1) (fun q=>a.length+1-q.1) (0,[],none,0) ⟨Nat.zero_le _,by dsimp only;rw [Nat.zero_min];rfl,fun x hx=>by cases hx⟩ (lk [0,1,2,3] [0,1,2]) ?_;apply Y 0x7c2f;intro k s O c hk hs hlt
 dsimp only at hk hs hlt ⊢;apply Zu 0xe9c4e658<;>intro hc9
 ·have hka:k<a.length:=Int.ofNat_lt.1 hc9;have hsk:aE a b k=s:=by rw [hs,Nat.min_eq_left (Nat.le_of_lt hka)]
  have hsl:s.length≤k:=by rw [← hsk];exact vj a b k
  apply Y 0xc889;refine eK (fun j:Nat=>[(0,.func (.yield l) #[] #[]),(1,ag PA 0),(2,ag PB 0),(5,.int .i64 (k:Int)),(4,.int .i64 (j:Int))]) (fun j:Nat=>[Rd PA [.slice SA a.length ca],Rd PB [.slice SB b.length cb],Rd SA (U8 a),Rd SB (U8 b)]) (fun j:Nat=>[dr l r,Own 220 1 A5 1 1 [.slice O s.length c],Own 223 2 O s.length c (a7 s)]) (fun j:Nat=>(k≤j∧j≤a.length∧aE a b j=(if k<j then s++[(k,j)] else s))∧aE a b (min (j+1) a.length)=aE a b j) ?_ ?_
  ·apply Y 0xba;refine lp [0,1,2,5] [_,_,_,_] (fun j:Nat=>[(4,.int .i64 (j:Int))]) (kz [_,_,_,_]) (kz [_,_,_]) (fun j=>k≤j∧j≤a.length∧aE a b j=(if k<j then s++[(k,j)] else s)) (fun j=>a.length-j) k ⟨Nat.le_refl _,Nat.le_of_lt hka,by rw [if_neg (Nat.lt_irrefl _)];exact hsk⟩ (lk [0,1,2,3] [0,1,2]) ?_;rintro j hj;have hkj:=hj.1;have hjl:=hj.2.1;apply Y 0xfc2a50efc6d55;refine LQ.bool 17 rfl (imp of_decide_eq_true ?_) (imp of_decide_eq_false ?_)<;>intro hg17
   ·have hja:j<a.length:=Int.ofNat_lt.1 hg17;apply Y 0x283d50e28;refine sq (ae (k:=j) rfl rfl rfl rfl rfl rfl rfl hja (Src.r 2 rfl) oI) ?_;apply Y 0x28;refine sq (Ev.load rfl rfl rfl (Src.r 2 rfl) (bn hja)) ?_;apply Y 0x283da3e28;refine sq (ae (k:=j) rfl rfl rfl rfl rfl rfl rfl oe (Src.r 3 rfl) oI) ?_;apply Y 0x28;refine sq (Ev.load rfl rfl rfl (Src.r 3 rfl) (bn oe)) ?_;apply Zu 0x5d52e2a28<;>intro hc27
    ·apply Y 0x25e400fba99;refine QE.round (j+1) (by exact ⟨by omega,by omega,DO hlt hkj hj.2.2 (fun e=>hc27 (dN.2 e))⟩) oe (lk [0,1,2,3] [0,1,2])
    apply Y 0x66e;refine QE.join (j) (by exact ⟨hj,vf (.inr ⟨hja,dN.1 hc27⟩)⟩) (lk [0,1,2,3] [0,1,2])
   apply Y 0x80ee4efbfb;refine C.cond rfl (fun h=>by cases h) (fun _=>?_);apply Y 0x66e;refine QE.join (j) (by exact ⟨hj,vf (.inl oe)⟩) (lk [0,1,2,3] [0,1,2])
  rintro j ⟨⟨hkj,hjl,hcj⟩,hstop⟩;apply Y 0x5;refine rn ?_;apply Y 0x99e99e99e99e;refine LY.bool 33 rfl (imp of_decide_eq_true ?_) (imp of_decide_eq_false ?_)<;>intro
  ·apply Y 0xa30f99ea30f99ea30f99ea30f;refine LY.step (Ev.build rfl rfl rfl rfl rfl rfl rfl) rfl ?_;apply Y 0xa30f;refine LY.yield (js:=[0,1,2]) (js':=[]) hy (s,O,c) (k,j) (show s.length≤200000 by omega) rfl rfl rfl rfl ob rfl ?_;apply Y 0x72e;intro s2 O2 c2 hnx;have hnx2:s2=s++[(k,j)]:=hnx;subst hnx2;apply Y 0x99e99ea30f;refine LY.nil ?_;apply Y 0x6a;refine C.cond rfl (fun h=>by cases h) (fun _=>?_);apply Y 0x8a5a;refine QE.round (i:=(k,s,O,c)) ((j+1,s++[(k,j)],O2,c2)) (by exact ⟨by dsimp only;omega,by dsimp only;rw [hstop,hcj,if_pos oe],Hj hlt oe⟩) ou (lk [0,1,2,3] [0,1,2])
  apply Y 0x99e930f930f930f930f930f930f;refine LY.nil ?_;apply Y 0x6a;refine C.cond rfl (fun h=>by cases h) (fun _=>?_);apply Y 0x8a5a;refine QE.round (i:=(k,s,O,c)) ((j+1,s,O,c)) (by exact ⟨by dsimp only;omega,by dsimp only;rw [hstop,hcj,if_neg oe],fun x hx=>Nat.lt_of_lt_of_le (hlt x hx) ou⟩) ou (lk [0,1,2,3] [0,1,2])
 apply Y 0x5b3f270f66e;obtain rfl:s=aE a b a.length:=by rw [hs];congr 1;omega
 exact ⟨rfl,O,c,rfl⟩
theorem AH (SA SB:Option Addr)(n m:Nat)(ca cb:Nat):
    Ctr X 256 [.slice SA n ca,.slice SB m cb] [] [] (fun v R' H'=>∃ PA PB:Option Addr,v=.func (.func 278) #[] #[ag PA 0,ag PB 0]∧R'=[Rd PA [.slice SA n ca],Rd PB [.slice SB m cb]]∧H'=[]):=by
 refine co Tryz.func256 ?_;intro β;apply Y 0x1e0f7;intro A2;apply Y 0x1e0f;intro A3;apply Y 0xd8c81;refine qfz 0 [1] ?_;apply Y 0x340f;refine qrt [1,0] [] [_] rfl rt ?_;exact ⟨A2,A3,rfl,rfl,rfl⟩
theorem pU (SA SB:Option Addr)(a b:List UInt8)(ca cb:Nat)(hab:a.length=b.length)(hal:a.length≤100000):
    Ctr X 226 [.slice SA a.length ca,.slice SB b.length cb] [Rd SA (U8 a),Rd SB (U8 b)] [] (fun v R' H'=>∃ (O:Option Addr) (c:Nat),v=.slice O (aE a b a.length).length c∧R'=[]∧H'=[Own 223 2 O (aE a b a.length).length c (a7 (aE a b a.length))]):=by
 refine Bz (X:=X) (fn:=Tryz.f226) Tryz.func226 rfl oa rfl ?_;intro β;apply Y 0x987c9;intro A5;apply Y 0x57b;refine iu 223 2 ?_;apply Y 0x9c;refine aJ (AH SA SB a.length b.length ca cb) ?_;apply Y 0x19;intro PA PB;apply Y 0xba88;refine vA (Rf:=[Rd PA [.slice SA a.length ca],Rd PB [.slice SB b.length cb],Rd SA (U8 a),Rd SB (U8 b)]) (js:=[0,1]) (js':=[]) (He:=fun i:Option Addr×Nat=>StR A5 (aE a b a.length,i.1,i.2)) rfl rfl rfl ob hcx (fun l d fn tmps hfr=>?_) (fun d i=>?_)
 ·refine (I5 l _ PA PB SA SB a b ca cb hab hal A5 ?_).mono ?_
  ·intro β2 w2 s x hg hs2;obtain ⟨rs,O,c⟩:=s;obtain ⟨p,q⟩:=x;have hrl:rs.length≤200000:=hg;refine tO (He:=StR A5) (good:=PL (rs,O,c) (p,q)) hfr ob rfl rfl rfl rfl rfl rfl rfl hs2 ?_;apply Y 0x98;intro A6;refine cN (vs:=[_,_]) (j:=3) rfl rfl rfl rfl rfl (Nat.zero_lt_succ _) rfl rfl ?_;apply Y 0xfd;refine fun a1 w1 hf1 hs1=>⟨rfl,_,_,hf1,hs1,?_⟩
   apply Y 0x6ee;refine sp (aa (vs:=[_,_]) rfl rfl rfl (Src.o 3 rfl) rfl rfl ob) ?_;refine s7 (cs:=[.int .i64 (p:Int),.int .i64 (q:Int)]) rfl rfl rfl rfl (Nat.zero_lt_succ _) rfl rfl rfl (fun A13=>?_);refine L.append (j:=2) rfl rfl rfl rfl ob rfl rfl rfl rfl (Src.o 4 rfl) rfl (jI [(p,q)]) (by show rs.length+1≤_;omega) (by show (rs.length+1)*16≤_;omega) rfl (fun A14 c14=>?_);apply Y 0xfdcbe;refine fun a2 w3 hf2 hs3=>⟨rfl,(rs++[(p,q)],A14,c14),rfl,?_⟩
   apply Y 0x982f;intro h3;have e1:(rs++[(p,q)]).length=rs.length+1:=oS
   unfold StR;apply Y 0x84e;rw [e1,← eX]
   exact h3
  rintro v R' H' ⟨rfl,O,c,rfl⟩;exact ⟨rfl,(O,c),rfl⟩
 obtain ⟨O,c⟩:=i
 dsimp only [StR];exact Zm 0x260fe63fd816ee774e
end Go.Proofs.YtbpddeiogcgegaaGreat
