/-
  InstallSurvives returns true whatever its arguments are, and its arguments read behind the call as they read before.
-/
import Derived.Test.YtbpddeiogcgegaaGreatRows
import Derived.ChangeSame
import Derived.Carry
import Derived.Test.YtbpddeiogcgegaaGreatYIu
set_option maxHeartbeats 0
set_option maxRecDepth 4000
set_option linter.all false
namespace Go.Proofs.YtbpddeiogcgegaaGreat
open Go.Sl Go.ChangeShapes Go.WideShapes Go.ChangeAt Go.RowKit Go.Joins Go.Deep
theorem Tryz.own:ownKnob Tryz.prog.godebug=none:=oa
theorem Tryz.laidOut:laidOutB Tryz.prog=true:=oa
set_option maxRecDepth 100000 in
theorem jB (os:Os)(started:os.Started)(H:Type)(enc:TypeId×Value→H):
    ReturnsInHanded {} Tryz.checked os 9 .any (Rows.installSurvivesSpec.pre6 enc Tryz.prog Tryz.f9 Rows.installSurvivesRow.domain false) (Rows.installSurvivesSpec.post enc Tryz.prog Tryz.f9 false true false false):=by
 refine returnsInHanded_of_change (C:=Tryz.checked) Tryz.own started oa Tryz.func9
  (ChangeSpec.witness6 (enc:=enc) (C:=Tryz.checked) false ⟨#[],#[.agg #[.slice none 0 0,.int .u8 0,.int .u8 0,.int .u8 0,.int .u8 0,.slice none 0 0],.slice none 0 0],[]⟩ 8 oa oa oa oa) ?_
 intro W base args ds gs before hval0 hW hcnd _;have hval:∀ (j:Nat) t v,Tryz.f9.params[j]?=some t→args[j]?=some v→Value.okWide Tryz.prog W .any base t v:=hval0;have hW':=hW;obtain ⟨p,q,hA0,hV,rfl,hfz,hnd⟩:=hW;have hA:DataW.TrodAll enc Tryz.prog W 0 (fun _=>true) true Tryz.f9.params.toList args.toList ds p:=hA0;rw [Tryz.params9] at hA hval;obtain ⟨v0,v1,d0,d1,p0,p1,rfl,rfl,rfl,h0,h1⟩:=trodAll_two hA;obtain ⟨rfl,rfl⟩:=trodVars_none hV;have k0:=h0;have k1:=h1;obtain ⟨x,LA,XO,lc,xoc,rfl,hll,hol,fP,fQ⟩:=rU ((X.ok 26 M9 rfl).und) rfl rfl rfl rfl rfl rfl ((X.ok 22 Nk rfl).und) ((X.ok 28 M3 rfl).und) ((X.ok 23 Ng rfl).und) ((X.ok 24 Mx rfl).und) ((X.ok 5 ti5 rfl).und) oa oa oa oa oa oa (hval 0 26 v0 rfl rfl) h0;obtain ⟨LB,bc,bs,rfl,hbl,hbk,fB,fC⟩:=tW ((X.ok 27 RH rfl).und) ((X.ok 58 RG rfl).und) rfl rfl rfl rfl ((X.ok 5 ti5 rfl).und) ((X.ok 24 Mx rfl).und) oa oa oa (hval 1 27 v1 rfl rfl) h1;have hM:maxLen=9223372036854775807:=ob;rw [hM] at hll hol hbl;have key:=ux x LA XO lc xoc hll hol LB bs bc hbl (fun i _=>hM▸hbk i);have hs0:Sat (bT W [Rd LA (m5 x.l),Rd XO (U8 x.old),Rd LB (s9 bs),KidsR (pJ bs) (B8 (ta bs))] []) W [Rd LA (m5 x.l),Rd XO (U8 x.old),Rd LB (s9 bs),KidsR (pJ bs) (B8 (ta bs))] []:=by
  refine Sat.start ?_ ?_
  ·intro r hr
   simp only [List.mem_cons,List.not_mem_nil,or_false] at hr
   rcases hr with rfl|rfl|rfl|rfl<;>assumption
  intro r hr k hk
  simp only [List.mem_cons,List.not_mem_nil,or_false] at hr
  rcases hr with rfl|rfl|rfl|rfl
  ·exact Go.Sl.Rd.lt fP hk
  ·exact Go.Sl.Rd.lt fQ hk
  ·exact Go.Sl.Rd.lt fB hk
  exact Go.Sl.KidsR.lt fC hk
 refine (key.2 W hs0).mono ?_;rintro e W' ⟨v,R',H',⟨rfl,-,-⟩,rfl,hs⟩;have hb:=hs.below;have hlt:=hW'.lt;apply Y 0xf71f;intro hbool;refine ⟨_,rfl,⟨[d0,d1],[],_,[],_,[],hW',trodAll_mk1 (show DataW.Trod enc Tryz.prog W' _ _ _ 4 (.bool true) (.lit (.bool true)) [] from ⟨1,by simp [DataW.trod,Value.cells,hbool]⟩),trodAll_mk2 (hb.trod Tryz.laidOut oa oay k0 (fun x hx=>hlt x obG)) (hb.trod Tryz.laidOut oa oay k1 (fun x hx=>hlt x obG)),rfl,hb.frame _,fun h=>by cases h⟩⟩
theorem so:(Rows.installSurvivesRow.inPlace==Tryz.prog.inPlace 9)=true:=oa
theorem sk:(Rows.installSurvivesRow.unfollowed==Tryz.prog.unfollowed 9)=true:=oa
theorem sj:(Rows.installSurvivesRow.recurses==Tryz.prog.recurses 9)=true:=oa
theorem si:(Rows.installSurvivesRow.named==Tryz.prog.varsNamed 9)=true:=oa
theorem sf:mapsRowed Tryz.prog=true:=oa
theorem jC:joinedFacts Tryz.prog 9 Tryz.f9 Rows.installSurvivesSpec Rows.installSurvivesRow=true:=by
 unfold joinedFacts;rw [Tryz.laidOut,so,sk,sj,si,sf]
 kernel_rfl
theorem iSurvives_holds:Rows.InstallSurvivesSaid:=
  OpenClaim.holds_of_wide 9 Tryz.f9 rfl rfl rfl rfl rfl rfl rfl ⟨rfl,rfl,rfl,rfl,rfl⟩ rfl rfl rfl rfl rfl oa Tryz.func9 jC
    (of_decide_eq_true oa) (by unfold Func.isWrapper;first|(rw [if_pos oay];kernel_rfl)|(rw [if_neg oay];exact ⟨rfl,rfl⟩))
    (fun os started H enc _=>jB os started H enc)
end Go.Proofs.YtbpddeiogcgegaaGreat
