/-
  InstallMatchesReference returns true for all arguments, which read as before behind the call.
-/
import Derived.Test.YtbpddeiogcgegaaGreatRows
import Derived.ChangeSame
import Derived.Carry
import Derived.Test.YtbpddeiogcgegaaGreatVWIoA
set_option maxHeartbeats 0
set_option maxRecDepth 4000
set_option linter.all false
namespace Go.Proofs.YtbpddeiogcgegaaGreat
open Rows Go.Sl Go.ChangeShapes Go.WideShapes Go.ChangeAt Go.RowKit Go.Joins Go.Deep
theorem Tryz.own:ownKnob Tryz.prog.godebug=.none:=oa
theorem dK:laidOutB Tryz.prog=true:=oa
set_option maxRecDepth 100000 in
theorem jU (os:Os)(started:os.Started)(H:Type)(enc:TypeId×Value→H):
    ReturnsInHanded {} Tryz.checked os 3 .any (installMatchesReferenceSpec.pre6 enc Tryz.prog Tryz.f3 installMatchesReferenceRow.domain false) (installMatchesReferenceSpec.post enc Tryz.prog Tryz.f3 false true false false):=by
 refine returnsInHanded_of_change (C:=Tryz.checked) Tryz.own started oa Tryz.func3
  (ChangeSpec.witness6 (enc:=enc) (C:=Tryz.checked) false ⟨#[],#[.agg #[.slice .none 0 0,.int .u8 0,.int .u8 0,.int .u8 0,.int .u8 0,.slice .none 0 0],.slice .none 0 0,.agg #[.int .u8 0,.int .u8 0,.int .u8 0]],[]⟩ 8 oa oa oa oa) ?_
 intro W base args ds gs before hval0 hW hcnd _;have hval:∀ (j:Nat) t v,Tryz.f3.params[j]?=some t→args[j]?=some v→Value.okWide Tryz.prog W .any base t v:=hval0;have hW':=hW;obtain ⟨p,q,hA0,hV,rfl,hfz,hnd⟩:=hW;have hA:DataW.TrodAll enc Tryz.prog W 0 (fun _=>true) true Tryz.f3.params.toList args.toList ds p:=hA0;rw [Tryz.params3] at hA hval;obtain ⟨v0,v1,v2,d0,d1,d2,p0,p1,p2,rfl,rfl,rfl,h0,h1,h2⟩:=trodAll_three hA;obtain ⟨rfl,rfl⟩:=trodVars_none hV;obtain ⟨x,LA,XO,lc,xoc,rfl,hll,hol,fP,fQ⟩:=yX (X.ok 26 PE rfl).und rfl rfl rfl rfl rfl rfl (X.ok 22 PG rfl).und (X.ok 28 Ml rfl).und (X.ok 23 PF rfl).und (X.ok 24 Mu rfl).und (X.ok 5 ti5 rfl).und oa oa oa oa oa oa (hval 0 26 v0 rfl rfl) h0;obtain ⟨LB,bc,bs,rfl,hbl,hbk,fB,fC⟩:=rZ (X.ok 27 PD rfl).und (X.ok 58 PC rfl).und rfl rfl rfl rfl (X.ok 5 ti5 rfl).und (X.ok 24 Mu rfl).und oa oa oa (hval 1 27 v1 rfl rfl) h1;obtain ⟨w0w,w1w,w2w,rfl⟩:=yV (X.ok 28 Ml rfl).und (X.ok 5 ti5 rfl).und oa oa (hval 2 28 v2 rfl rfl) h2;have hM:maxLen=9223372036854775807:=ob;rw [hM] at hll hol hbl;have key:=wb x LA XO lc xoc hll hol LB bs bc w0w w1w w2w hbl (fun i _=>hM▸hbk i);have hs0:Sat (bW W [Rd LA (jj x.l),Rd XO (U8 x.old),Rd LB (pW bs),KidsR (np bs) (B8 (pX bs))] []) W [Rd LA (jj x.l),Rd XO (U8 x.old),Rd LB (pW bs),KidsR (np bs) (B8 (pX bs))] []:=by
  refine Sat.start (fun r hr=>?_) fun r hr k hk=>?_<;>simp only [List.mem_cons,List.not_mem_nil,or_false] at hr<;>rcases hr with rfl|rfl|rfl|rfl
  any_goals assumption
  ·exact Rd.lt fP hk
  ·exact Rd.lt fQ hk
  ·exact Rd.lt fB hk
  exact KidsR.lt fC hk
 refine (key.2 W hs0).mono ?_;rintro e W' ⟨v,R',H',⟨rfl,-,-⟩,rfl,hs⟩;have hb:=hs.below;have hlt:=hW'.lt;refine ⟨_,rfl,⟨[d0,d1,d2],[],_,[],_,[],hW',trodAll_mk1 (show DataW.Trod enc Tryz.prog W' _ _ _ 4 (.bool true) (.lit (.bool true)) [] from ⟨1,by simp [DataW.trod,Value.cells,show Tryz.prog.underlying 4=some .bool from (X.ok 4 ti4 rfl).und]⟩),trodAll_mk3 (hb.trod dK oa obw h0 (fun x hx=>hlt x obM)) (hb.trod dK oa obw h1 (fun x hx=>hlt x obM)) (hb.trod dK oa obw h2 (fun x hx=>hlt x obM)),rfl,hb.frame _,fun h=>by cases h⟩⟩
theorem sD:(installMatchesReferenceRow.inPlace==Tryz.prog.inPlace 3)=true:=oa
theorem sC:(installMatchesReferenceRow.unfollowed==Tryz.prog.unfollowed 3)=true:=oa
theorem sB:(installMatchesReferenceRow.recurses==Tryz.prog.recurses 3)=true:=oa
theorem sA:(installMatchesReferenceRow.named==Tryz.prog.varsNamed 3)=true:=oa
theorem sx:mapsRowed Tryz.prog=true:=oa
theorem jV:joinedFacts Tryz.prog 3 Tryz.f3 installMatchesReferenceSpec installMatchesReferenceRow=true:=by
 unfold joinedFacts;rw [dK,sD,sC,sB,sA,sx]
 kernel_rfl
theorem iMatches_holds:Rows.InstallMatchesReferenceSaid:=
  OpenClaim.holds_of_wide 3 Tryz.f3 rfl rfl rfl rfl rfl rfl rfl ⟨rfl,rfl,rfl,rfl,rfl⟩ rfl rfl rfl rfl rfl oa Tryz.func3 jV
    (of_decide_eq_true oa) (by unfold Func.isWrapper;first|(rw [if_pos obw];kernel_rfl)|(rw [if_neg obw];exact ⟨rfl,rfl⟩))
    (fun os started H enc _=>jU os started H enc)
end Go.Proofs.YtbpddeiogcgegaaGreat
