/-
  InstallUpdates returns true whatever its arguments are, and its arguments read behind the call as they read before.
-/
import Derived.Test.YtbpddeiogcgegaaGreatRows
import Derived.ChangeSame
import Derived.Carry
import Derived.Test.YtbpddeiogcgegaaGreatYIl
set_option maxHeartbeats 0
set_option maxRecDepth 4000
set_option linter.all false
namespace Go.Proofs.YtbpddeiogcgegaaGreat
open Go.Sl Go.ChangeShapes Go.WideShapes Go.ChangeAt Go.RowKit Go.Joins Go.Deep
theorem Tryz.own:ownKnob Tryz.prog.godebug=none:=oa
theorem Tryz.laidOut:laidOutB Tryz.prog=true:=oa
set_option maxRecDepth 100000 in
theorem kT (os:Os)(started:os.Started)(H:Type)(enc:TypeId×Value→H):
    ReturnsInHanded {} Tryz.checked os 5 .any (Rows.installUpdatesSpec.pre6 enc Tryz.prog Tryz.f5 Rows.installUpdatesRow.domain false) (Rows.installUpdatesSpec.post enc Tryz.prog Tryz.f5 false true false false):=by
 refine returnsInHanded_of_change (C:=Tryz.checked) Tryz.own started oa Tryz.func5
  (ChangeSpec.witness6 (enc:=enc) (C:=Tryz.checked) false ⟨#[],#[.agg #[.slice none 0 0,.int .u8 0,.int .u8 0,.int .u8 0,.int .u8 0,.slice none 0 0]],[]⟩ 8 oa oa oa oa) ?_
 intro W base args ds gs before hval0 hW hcnd _;have hval:∀ (j:Nat) t v,Tryz.f5.params[j]?=some t→args[j]?=some v→Value.okWide Tryz.prog W .any base t v:=hval0;have hW':=hW;obtain ⟨p,q,hA0,hV,rfl,hfz,hnd⟩:=hW;have hA:DataW.TrodAll enc Tryz.prog W 0 (fun _=>true) true Tryz.f5.params.toList args.toList ds p:=hA0;rw [Tryz.params5] at hA hval;obtain ⟨v0,d0,rfl,rfl,h0⟩:=trodAll_one hA;obtain ⟨rfl,rfl⟩:=trodVars_none hV;have k0:=h0;obtain ⟨x,LA,XO,lc,xoc,rfl,hll,hol,fP,fQ⟩:=rU ((X.ok 26 M9 rfl).und) rfl rfl rfl rfl rfl rfl ((X.ok 22 Nk rfl).und) ((X.ok 28 M3 rfl).und) ((X.ok 23 Ng rfl).und) ((X.ok 24 Mx rfl).und) ((X.ok 5 ti5 rfl).und) oa oa oa oa oa oa (hval 0 26 v0 rfl rfl) h0;have hM:maxLen=9223372036854775807:=ob;rw [hM] at hll hol;have key:=xP x LA XO lc xoc hll hol;have hs0:Sat (bT W [Rd LA (m5 x.l),Rd XO (U8 x.old)] []) W [Rd LA (m5 x.l),Rd XO (U8 x.old)] []:=by
  refine Sat.start ?_ ?_
  ·intro r hr
   simp only [List.mem_cons,List.not_mem_nil,or_false] at hr
   rcases hr with rfl|rfl<;>assumption
  intro r hr k hk
  simp only [List.mem_cons,List.not_mem_nil,or_false] at hr
  rcases hr with rfl|rfl
  ·exact Go.Sl.Rd.lt fP hk
  exact Go.Sl.Rd.lt fQ hk
 refine (key.2 W hs0).mono ?_;rintro e W' ⟨v,R',H',⟨rfl,-,-⟩,rfl,hs⟩;have hb:=hs.below;have hlt:=hW'.lt;apply Y 0xf71f;intro hbool;refine ⟨_,rfl,⟨[d0],[],_,[],_,[],hW',trodAll_mk1 (show DataW.Trod enc Tryz.prog W' _ _ _ 4 (.bool true) (.lit (.bool true)) [] from ⟨1,by simp [DataW.trod,Value.cells,hbool]⟩),trodAll_mk1 (hb.trod Tryz.laidOut oa oay k0 (fun x hx=>hlt x obG)),rfl,hb.frame _,fun h=>by cases h⟩⟩
theorem uw:(Rows.installUpdatesRow.inPlace==Tryz.prog.inPlace 5)=true:=oa
theorem uu:(Rows.installUpdatesRow.unfollowed==Tryz.prog.unfollowed 5)=true:=oa
theorem ur:(Rows.installUpdatesRow.recurses==Tryz.prog.recurses 5)=true:=oa
theorem uq:(Rows.installUpdatesRow.named==Tryz.prog.varsNamed 5)=true:=oa
theorem um:mapsRowed Tryz.prog=true:=oa
theorem kU:joinedFacts Tryz.prog 5 Tryz.f5 Rows.installUpdatesSpec Rows.installUpdatesRow=true:=by
 unfold joinedFacts;rw [Tryz.laidOut,uw,uu,ur,uq,um]
 kernel_rfl
theorem iUpdates_holds:Rows.InstallUpdatesSaid:=
  OpenClaim.holds_of_wide 5 Tryz.f5 rfl rfl rfl rfl rfl rfl rfl ⟨rfl,rfl,rfl,rfl,rfl⟩ rfl rfl rfl rfl rfl oa Tryz.func5 kU
    (of_decide_eq_true oa) (by unfold Func.isWrapper;first|(rw [if_pos oay];kernel_rfl)|(rw [if_neg oay];exact ⟨rfl,rfl⟩))
    (fun os started H enc _=>kT os started H enc)
end Go.Proofs.YtbpddeiogcgegaaGreat
