/-
  InstallOdd returns true whatever its arguments are, and its arguments read behind the call as they read before.
-/
import Derived.Test.YtbpddeiogcgegaaGreatRows
import Derived.ChangeSame
import Derived.Carry
import Derived.Test.YtbpddeiogcgegaaGreatUIp
set_option maxHeartbeats 0
set_option maxRecDepth 4000
set_option linter.all false
namespace Go.Proofs.YtbpddeiogcgegaaGreat
open Go.Sl Go.ChangeShapes Go.WideShapes Go.ChangeAt Go.RowKit Go.Joins Go.Deep
theorem Tryz.own:ownKnob Tryz.prog.godebug=none:=oa
theorem fa:laidOutB Tryz.prog=true:=oa
set_option maxRecDepth 100000 in
theorem rL (os:Os)(started:os.Started)(H:Type)(enc:TypeId×Value→H):
    ReturnsInHanded {} Tryz.checked os 4 .any (Rows.installOddSpec.pre6 enc Tryz.prog Tryz.f4 Rows.installOddRow.domain false) (Rows.installOddSpec.post enc Tryz.prog Tryz.f4 false true false false):=by
 refine returnsInHanded_of_change (C:=Tryz.checked) Tryz.own started oa Tryz.func4
  (ChangeSpec.witness6 (enc:=enc) (C:=Tryz.checked) false ⟨#[],#[.agg #[.slice none 0 0,.int .u8 0,.int .u8 0,.int .u8 0,.int .u8 0,.slice none 0 0],.agg #[.int .u8 0,.int .u8 0,.int .u8 0,.int .u8 0,.int .u8 0,.int .u8 0,.int .u8 0,.int .u8 0,.int .u8 0,.int .u8 0,.int .u8 0,.int .u8 0,.int .u8 0]],[]⟩ 8 oa oa oa oa) ?_
 intro W base args ds gs before hval0 hW hcnd _;have hval:∀ (j:Nat) t v,Tryz.f4.params[j]?=some t→args[j]?=some v→Value.okWide Tryz.prog W .any base t v:=hval0;have hW':=hW;obtain ⟨p,q,hA0,hV,rfl,hfz,hnd⟩:=hW;have hA:DataW.TrodAll enc Tryz.prog W 0 (fun _=>true) true Tryz.f4.params.toList args.toList ds p:=hA0;rw [Tryz.params4] at hA hval;obtain ⟨v0,v1,d0,d1,p0,p1,rfl,rfl,rfl,h0,h1⟩:=trodAll_two hA;obtain ⟨rfl,rfl⟩:=trodVars_none hV;have k0:=h0;have k1:=h1;obtain ⟨x,LA,XO,lc,xoc,rfl,hll,hol,fP,fQ⟩:=x6 ((X.ok 26 Py rfl).und) rfl rfl rfl rfl rfl rfl ((X.ok 22 PD rfl).und) ((X.ok 28 Px rfl).und) ((X.ok 23 L6 rfl).und) ((X.ok 24 PC rfl).und) ((X.ok 5 ti5 rfl).und) oa oa oa oa oa oa (hval 0 26 v0 rfl rfl) h0;obtain ⟨os,y0,y1,y2,y3,hos,rfl⟩:=B9 ((X.ok 71 Pd rfl).und) rfl rfl rfl rfl ((X.ok 5 ti5 rfl).und) ((X.ok 23 L6 rfl).und) ((X.ok 69 Pf rfl).und) oa oa oa oa (hval 1 71 v1 rfl rfl) h1;have hM:maxLen=9223372036854775807:=ob;rw [hM] at hll hol;have key:=IU x LA XO lc xoc hll hol os y0 y1 y2 y3;have hs0:Sat (bV W [Rd LA (pI x.l),Rd XO (U8 x.old)] []) W [Rd LA (pI x.l),Rd XO (U8 x.old)] []:=by
  refine Sat.start ?_ ?_
  ·intro r hr
   simp only [List.mem_cons,List.not_mem_nil,or_false] at hr
   rcases hr with rfl|rfl<;>assumption
  intro r hr k hk
  simp only [List.mem_cons,List.not_mem_nil,or_false] at hr
  rcases hr with rfl|rfl
  ·exact Go.Sl.Rd.lt fP hk
  exact Go.Sl.Rd.lt fQ hk
 refine (key.2 W hs0).mono ?_;rintro e W' ⟨v,R',H',⟨rfl,-,-⟩,rfl,hs⟩;have hb:=hs.below;have hlt:=hW'.lt;have hbool:Tryz.prog.underlying 4=some .bool:=((X.ok 4 ti4 rfl).und);refine ⟨_,rfl,⟨[d0,d1],[],_,[],_,[],hW',trodAll_mk1 (show DataW.Trod enc Tryz.prog W' _ _ _ 4 (.bool true) (.lit (.bool true)) [] from ⟨1,by simp [DataW.trod,Value.cells,hbool]⟩),trodAll_mk2 (hb.trod fa oa obN k0 (fun x hx=>hlt x obP)) (hb.trod fa oa obN k1 (fun x hx=>hlt x obP)),rfl,hb.frame _,fun h=>by cases h⟩⟩
theorem F7:(Rows.installOddRow.inPlace==Tryz.prog.inPlace 4)=true:=oa
theorem F6:(Rows.installOddRow.unfollowed==Tryz.prog.unfollowed 4)=true:=oa
theorem F5:(Rows.installOddRow.recurses==Tryz.prog.recurses 4)=true:=oa
theorem F4:(Rows.installOddRow.named==Tryz.prog.varsNamed 4)=true:=oa
theorem F3:mapsRowed Tryz.prog=true:=oa
theorem rM:joinedFacts Tryz.prog 4 Tryz.f4 Rows.installOddSpec Rows.installOddRow=true:=by
 unfold joinedFacts;rw [fa,F7,F6,F5,F4,F3]
 kernel_rfl
theorem iOdd_holds:Rows.InstallOddSaid:=
  OpenClaim.holds_of_wide 4 Tryz.f4 rfl rfl rfl rfl rfl rfl rfl ⟨rfl,rfl,rfl,rfl,rfl⟩ rfl rfl rfl rfl rfl oa Tryz.func4 rM
    (of_decide_eq_true oa) (by unfold Func.isWrapper;first|(rw [if_pos obN];kernel_rfl)|(rw [if_neg obN];exact ⟨rfl,rfl⟩))
    (fun os started H enc _=>rL os started H enc)
end Go.Proofs.YtbpddeiogcgegaaGreat
