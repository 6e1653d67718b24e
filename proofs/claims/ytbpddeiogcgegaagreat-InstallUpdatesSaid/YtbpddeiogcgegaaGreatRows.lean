/-
  No cell of these rows narrows 'for every input' (looked for: loops, veiled, ifaces, maps, wideKeys, modest, calm, conditions, laid).
  DERIVED. THE GIVEN ROWS OF THIS SEAT. 9 by the template 'for every input the law returns true; each argument reads behind the call as it read before'; 0 by the template 'total and deterministic' (their statements: YtbpddeiogcgegaaGreatTotals.lean).
  GIVEN WITH THE SEED: the statements are not yours to turn. If you find one false, say at which input.
  Laid BY PROGRAM, IN A SANDBOX (cutbox-rows.mjs): the forced cells as the released guide's own fill.sh prints them over the translation 8d2e408cb04ee36f… (all of the seat's roots in one cut). By AI agents, Wed Nov 11 2026. No macro, syntax, notation, axiom, sorry.
-/
import Derived.Test.YtbpddeiogcgegaaGreatChecked
import GoSem.Claim
import GoSem.ClaimJoined
import GoSem.ClaimMapViews
import Derived.JoinedTies
import Derived.KernelRfl
namespace Go.Proofs.YtbpddeiogcgegaaGreat
/- THE CELL 'sum', in the pinned program and in every row, IS THE sha256 OF THE DUMP (.gsa) THAT YtbpddeiogcgegaaGreatProg.lean LOADS. Nothing in Lean hashes anything: it is a label: what it is worth is what the hold of that sum in a sandbox is worth. -/
noncomputable def Tryz.pinned : Pinned := { name := "ytbpddeiogcgegaagreat", sum := "8d2e408cb04ee36fb0a0c07fa923c8148592fa479b8fcca69752e432a74f4d96", checked := Tryz.checked }
namespace Rows
def none {H : Type} : Left H := { results := [], args := [] }

/-- 'inlaylaw22.InstallMatchesReference': WHATEVER THE INPUT: true; the input reads as it did. -/
def installMatchesReferenceSpec : ChangeSpec := { name := "installMatchesReference", fn := fun _ => fun
  | [d1, d2, d3] => { results := [.lit (.bool true)], args := [d1, d2, d3] }
  | _ => none }
def installMatchesReferenceRow : OpenClaim := { program := "ytbpddeiogcgegaagreat", sum := "8d2e408cb04ee36fb0a0c07fa923c8148592fa479b8fcca69752e432a74f4d96", func := "inlay/inlaylaw22.InstallMatchesReference", spec := "installMatchesReference", inPlace := ["internal/bytealg.Count", "internal/bytealg.IndexByte", "internal/bytealg.Index", "slices.overlaps[int]", "internal/bytealg.MakeNoZero"], unfollowed := true, recurses := true, named := ["internal/bytealg.MaxLen"], apart := false }
def InstallMatchesReferenceSaid : Prop := installMatchesReferenceRow.holds Tryz.pinned (OpenSpec.ofChange installMatchesReferenceSpec)

/-- ITS FALSE NEIGHBOUR: 'it returns false'. Refute it at one input. -/
def installMatchesReferenceWrong : ChangeSpec := { name := "installMatchesReference", fn := fun _ => fun
  | [d1, d2, d3] => { results := [.lit (.bool false)], args := [d1, d2, d3] }
  | _ => none }
def InstallMatchesReferenceWrongFalsely : Prop := installMatchesReferenceRow.holds Tryz.pinned (OpenSpec.ofChange installMatchesReferenceWrong)

/-- 'inlaylaw22.InstallOdd': WHATEVER THE INPUT: true; the input reads as it did. -/
def installOddSpec : ChangeSpec := { name := "installOdd", fn := fun _ => fun
  | [d1, d2] => { results := [.lit (.bool true)], args := [d1, d2] }
  | _ => none }
def installOddRow : OpenClaim := { program := "ytbpddeiogcgegaagreat", sum := "8d2e408cb04ee36fb0a0c07fa923c8148592fa479b8fcca69752e432a74f4d96", func := "inlay/inlaylaw22.InstallOdd", spec := "installOdd", inPlace := ["internal/bytealg.Count", "internal/bytealg.IndexByte", "internal/bytealg.Index", "slices.overlaps[int]", "internal/bytealg.MakeNoZero"], unfollowed := true, recurses := true, named := ["internal/bytealg.MaxLen"], apart := false }
def InstallOddSaid : Prop := installOddRow.holds Tryz.pinned (OpenSpec.ofChange installOddSpec)

/-- ITS FALSE NEIGHBOUR: 'it returns false'. Refute it at one input. -/
def installOddWrong : ChangeSpec := { name := "installOdd", fn := fun _ => fun
  | [d1, d2] => { results := [.lit (.bool false)], args := [d1, d2] }
  | _ => none }
def InstallOddWrongFalsely : Prop := installOddRow.holds Tryz.pinned (OpenSpec.ofChange installOddWrong)

/-- 'inlaylaw22.InstallUpdates': WHATEVER THE INPUT: true; the input reads as it did. -/
def installUpdatesSpec : ChangeSpec := { name := "installUpdates", fn := fun _ => fun
  | [d] => { results := [.lit (.bool true)], args := [d] }
  | _ => none }
def installUpdatesRow : OpenClaim := { program := "ytbpddeiogcgegaagreat", sum := "8d2e408cb04ee36fb0a0c07fa923c8148592fa479b8fcca69752e432a74f4d96", func := "inlay/inlaylaw22.InstallUpdates", spec := "installUpdates", inPlace := ["internal/bytealg.Count", "internal/bytealg.IndexByte", "internal/bytealg.Index", "slices.overlaps[int]", "internal/bytealg.MakeNoZero"], unfollowed := true, recurses := true, named := ["internal/bytealg.MaxLen"], apart := false }
def InstallUpdatesSaid : Prop := installUpdatesRow.holds Tryz.pinned (OpenSpec.ofChange installUpdatesSpec)

/-- ITS FALSE NEIGHBOUR: 'it returns false'. Refute it at one input. -/
def installUpdatesWrong : ChangeSpec := { name := "installUpdates", fn := fun _ => fun
  | [d] => { results := [.lit (.bool false)], args := [d] }
  | _ => none }
def InstallUpdatesWrongFalsely : Prop := installUpdatesRow.holds Tryz.pinned (OpenSpec.ofChange installUpdatesWrong)

/-- 'inlaylaw22.InstallOthers': WHATEVER THE INPUT: true; the input reads as it did. -/
def installOthersSpec : ChangeSpec := { name := "installOthers", fn := fun _ => fun
  | [d1, d2] => { results := [.lit (.bool true)], args := [d1, d2] }
  | _ => none }
def installOthersRow : OpenClaim := { program := "ytbpddeiogcgegaagreat", sum := "8d2e408cb04ee36fb0a0c07fa923c8148592fa479b8fcca69752e432a74f4d96", func := "inlay/inlaylaw22.InstallOthers", spec := "installOthers", inPlace := ["internal/bytealg.Count", "internal/bytealg.IndexByte", "internal/bytealg.Index", "slices.overlaps[int]", "internal/bytealg.MakeNoZero"], unfollowed := true, recurses := true, named := ["internal/bytealg.MaxLen"], apart := false }
def InstallOthersSaid : Prop := installOthersRow.holds Tryz.pinned (OpenSpec.ofChange installOthersSpec)

/-- ITS FALSE NEIGHBOUR: 'it returns false'. Refute it at one input. -/
def installOthersWrong : ChangeSpec := { name := "installOthers", fn := fun _ => fun
  | [d1, d2] => { results := [.lit (.bool false)], args := [d1, d2] }
  | _ => none }
def InstallOthersWrongFalsely : Prop := installOthersRow.holds Tryz.pinned (OpenSpec.ofChange installOthersWrong)

/-- 'inlaylaw22.InstallStages': WHATEVER THE INPUT: true; the input reads as it did. -/
def installStagesSpec : ChangeSpec := { name := "installStages", fn := fun _ => fun
  | [d1, d2, d3] => { results := [.lit (.bool true)], args := [d1, d2, d3] }
  | _ => none }
def installStagesRow : OpenClaim := { program := "ytbpddeiogcgegaagreat", sum := "8d2e408cb04ee36fb0a0c07fa923c8148592fa479b8fcca69752e432a74f4d96", func := "inlay/inlaylaw22.InstallStages", spec := "installStages", inPlace := ["internal/bytealg.Count", "internal/bytealg.IndexByte", "internal/bytealg.Index", "slices.overlaps[int]", "internal/bytealg.MakeNoZero"], unfollowed := true, recurses := true, named := ["internal/bytealg.MaxLen"], apart := false }
def InstallStagesSaid : Prop := installStagesRow.holds Tryz.pinned (OpenSpec.ofChange installStagesSpec)

/-- ITS FALSE NEIGHBOUR: 'it returns false'. Refute it at one input. -/
def installStagesWrong : ChangeSpec := { name := "installStages", fn := fun _ => fun
  | [d1, d2, d3] => { results := [.lit (.bool false)], args := [d1, d2, d3] }
  | _ => none }
def InstallStagesWrongFalsely : Prop := installStagesRow.holds Tryz.pinned (OpenSpec.ofChange installStagesWrong)

/-- 'inlaylaw22.InstallNeeds': WHATEVER THE INPUT: true; the input reads as it did. -/
def installNeedsSpec : ChangeSpec := { name := "installNeeds", fn := fun _ => fun
  | [d] => { results := [.lit (.bool true)], args := [d] }
  | _ => none }
def installNeedsRow : OpenClaim := { program := "ytbpddeiogcgegaagreat", sum := "8d2e408cb04ee36fb0a0c07fa923c8148592fa479b8fcca69752e432a74f4d96", func := "inlay/inlaylaw22.InstallNeeds", spec := "installNeeds", inPlace := ["internal/bytealg.Count", "internal/bytealg.IndexByte", "internal/bytealg.Index", "slices.overlaps[int]", "internal/bytealg.MakeNoZero"], unfollowed := true, recurses := true, named := ["internal/bytealg.MaxLen"], apart := false }
def InstallNeedsSaid : Prop := installNeedsRow.holds Tryz.pinned (OpenSpec.ofChange installNeedsSpec)

/-- ITS FALSE NEIGHBOUR: 'it returns false'. Refute it at one input. -/
def installNeedsWrong : ChangeSpec := { name := "installNeeds", fn := fun _ => fun
  | [d] => { results := [.lit (.bool false)], args := [d] }
  | _ => none }
def InstallNeedsWrongFalsely : Prop := installNeedsRow.holds Tryz.pinned (OpenSpec.ofChange installNeedsWrong)

/-- 'inlaylaw22.InstallSurvives': WHATEVER THE INPUT: true; the input reads as it did. -/
def installSurvivesSpec : ChangeSpec := { name := "installSurvives", fn := fun _ => fun
  | [d1, d2] => { results := [.lit (.bool true)], args := [d1, d2] }
  | _ => none }
def installSurvivesRow : OpenClaim := { program := "ytbpddeiogcgegaagreat", sum := "8d2e408cb04ee36fb0a0c07fa923c8148592fa479b8fcca69752e432a74f4d96", func := "inlay/inlaylaw22.InstallSurvives", spec := "installSurvives", inPlace := ["internal/bytealg.Count", "internal/bytealg.IndexByte", "internal/bytealg.Index", "slices.overlaps[int]", "internal/bytealg.MakeNoZero"], unfollowed := true, recurses := true, named := ["internal/bytealg.MaxLen"], apart := false }
def InstallSurvivesSaid : Prop := installSurvivesRow.holds Tryz.pinned (OpenSpec.ofChange installSurvivesSpec)

/-- ITS FALSE NEIGHBOUR: 'it returns false'. Refute it at one input. -/
def installSurvivesWrong : ChangeSpec := { name := "installSurvives", fn := fun _ => fun
  | [d1, d2] => { results := [.lit (.bool false)], args := [d1, d2] }
  | _ => none }
def InstallSurvivesWrongFalsely : Prop := installSurvivesRow.holds Tryz.pinned (OpenSpec.ofChange installSurvivesWrong)

/-- 'inlaylaw22.InstallReturns': WHATEVER THE INPUT: true; the input reads as it did. -/
def installReturnsSpec : ChangeSpec := { name := "installReturns", fn := fun _ => fun
  | [d1, d2, d3] => { results := [.lit (.bool true)], args := [d1, d2, d3] }
  | _ => none }
def installReturnsRow : OpenClaim := { program := "ytbpddeiogcgegaagreat", sum := "8d2e408cb04ee36fb0a0c07fa923c8148592fa479b8fcca69752e432a74f4d96", func := "inlay/inlaylaw22.InstallReturns", spec := "installReturns", inPlace := ["internal/bytealg.Count", "internal/bytealg.IndexByte", "internal/bytealg.Index", "slices.overlaps[int]", "internal/bytealg.MakeNoZero"], unfollowed := true, recurses := true, named := ["internal/bytealg.MaxLen"], apart := false }
def InstallReturnsSaid : Prop := installReturnsRow.holds Tryz.pinned (OpenSpec.ofChange installReturnsSpec)

/-- ITS FALSE NEIGHBOUR: 'it returns false'. Refute it at one input. -/
def installReturnsWrong : ChangeSpec := { name := "installReturns", fn := fun _ => fun
  | [d1, d2, d3] => { results := [.lit (.bool false)], args := [d1, d2, d3] }
  | _ => none }
def InstallReturnsWrongFalsely : Prop := installReturnsRow.holds Tryz.pinned (OpenSpec.ofChange installReturnsWrong)

/-- 'inlaylaw22.InstallWaits': WHATEVER THE INPUT: true; the input reads as it did. -/
def installWaitsSpec : ChangeSpec := { name := "installWaits", fn := fun _ => fun
  | [d1, d2, d3] => { results := [.lit (.bool true)], args := [d1, d2, d3] }
  | _ => none }
def installWaitsRow : OpenClaim := { program := "ytbpddeiogcgegaagreat", sum := "8d2e408cb04ee36fb0a0c07fa923c8148592fa479b8fcca69752e432a74f4d96", func := "inlay/inlaylaw22.InstallWaits", spec := "installWaits", inPlace := ["internal/bytealg.Count", "internal/bytealg.IndexByte", "internal/bytealg.Index", "slices.overlaps[int]", "internal/bytealg.MakeNoZero"], unfollowed := true, recurses := true, named := ["internal/bytealg.MaxLen"], apart := false }
def InstallWaitsSaid : Prop := installWaitsRow.holds Tryz.pinned (OpenSpec.ofChange installWaitsSpec)

/-- ITS FALSE NEIGHBOUR: 'it returns false'. Refute it at one input. -/
def installWaitsWrong : ChangeSpec := { name := "installWaits", fn := fun _ => fun
  | [d1, d2, d3] => { results := [.lit (.bool false)], args := [d1, d2, d3] }
  | _ => none }
def InstallWaitsWrongFalsely : Prop := installWaitsRow.holds Tryz.pinned (OpenSpec.ofChange installWaitsWrong)

/- THE SECOND FORM. 'bulk': how many values and letters a reading holds, each counted each time it is reached (what is shared counts as often as it is met; a slice's spare places count too). A statement '..UptoSaid' is the law's where the arguments, and the package variables that the reading takes, are together of bulk at most 1048576: NARROWER than '..Said'. Prove '..Said' where nothing that the law and all that it calls make is longer than what came in: it says more and counts as full. Else prove '..UptoSaid'. A law counts once. -/
mutual
def uptoBulk {H : Type} : DataW H → Nat
  | .lit (.string bytes) => bytes.length + 1
  | .lit _ => 1
  | .nil => 1
  | .ptr d => uptoBulk d + 1
  | .slice elems spare => uptoBulkAll elems + uptoBulkAll spare + 1
  | .agg parts => uptoBulkAll parts + 1
  | .iface _ d => uptoBulk d + 1
  | .map entries => uptoBulkEntries entries + 1
  | .held _ => 1
def uptoBulkAll {H : Type} : List (DataW H) → Nat
  | [] => 0
  | d :: r => uptoBulk d + uptoBulkAll r
def uptoBulkEntries {H : Type} : List (Lit × DataW H) → Nat
  | [] => 0
  | x :: r => uptoBulkEntry x + uptoBulkEntries r
def uptoBulkEntry {H : Type} : Lit × DataW H → Nat
  | (.string bytes, d) => bytes.length + uptoBulk d + 1
  | (_, d) => uptoBulk d + 1
 end
def uptoSmall : (H : Type) → List (DataW H) → Bool := fun _ ds => decide (uptoBulkAll ds ≤ 1048576)
def OpenSpec.upto (s : _root_.Go.ChangeSpec) : _root_.Go.OpenSpec := { _root_.Go.OpenSpec.ofChange s with cond := some uptoSmall }

/-- 'inlaylaw22.InstallMatchesReference', WHERE WHAT IT READS IS OF BULK AT MOST 1048576: true; the input reads as it did. -/
def installMatchesReferenceUptoRow : OpenClaim := { program := "ytbpddeiogcgegaagreat", sum := "8d2e408cb04ee36fb0a0c07fa923c8148592fa479b8fcca69752e432a74f4d96", func := "inlay/inlaylaw22.InstallMatchesReference", spec := "installMatchesReference", inPlace := ["internal/bytealg.Count", "internal/bytealg.IndexByte", "internal/bytealg.Index", "slices.overlaps[int]", "internal/bytealg.MakeNoZero"], unfollowed := true, recurses := true, named := ["internal/bytealg.MaxLen"], apart := false, narrowed := true }
def InstallMatchesReferenceUptoSaid : Prop := installMatchesReferenceUptoRow.holds Tryz.pinned (OpenSpec.upto installMatchesReferenceSpec)

/-- 'inlaylaw22.InstallOdd', WHERE WHAT IT READS IS OF BULK AT MOST 1048576: true; the input reads as it did. -/
def installOddUptoRow : OpenClaim := { program := "ytbpddeiogcgegaagreat", sum := "8d2e408cb04ee36fb0a0c07fa923c8148592fa479b8fcca69752e432a74f4d96", func := "inlay/inlaylaw22.InstallOdd", spec := "installOdd", inPlace := ["internal/bytealg.Count", "internal/bytealg.IndexByte", "internal/bytealg.Index", "slices.overlaps[int]", "internal/bytealg.MakeNoZero"], unfollowed := true, recurses := true, named := ["internal/bytealg.MaxLen"], apart := false, narrowed := true }
def InstallOddUptoSaid : Prop := installOddUptoRow.holds Tryz.pinned (OpenSpec.upto installOddSpec)

/-- 'inlaylaw22.InstallUpdates', WHERE WHAT IT READS IS OF BULK AT MOST 1048576: true; the input reads as it did. -/
def installUpdatesUptoRow : OpenClaim := { program := "ytbpddeiogcgegaagreat", sum := "8d2e408cb04ee36fb0a0c07fa923c8148592fa479b8fcca69752e432a74f4d96", func := "inlay/inlaylaw22.InstallUpdates", spec := "installUpdates", inPlace := ["internal/bytealg.Count", "internal/bytealg.IndexByte", "internal/bytealg.Index", "slices.overlaps[int]", "internal/bytealg.MakeNoZero"], unfollowed := true, recurses := true, named := ["internal/bytealg.MaxLen"], apart := false, narrowed := true }
def InstallUpdatesUptoSaid : Prop := installUpdatesUptoRow.holds Tryz.pinned (OpenSpec.upto installUpdatesSpec)

/-- 'inlaylaw22.InstallOthers', WHERE WHAT IT READS IS OF BULK AT MOST 1048576: true; the input reads as it did. -/
def installOthersUptoRow : OpenClaim := { program := "ytbpddeiogcgegaagreat", sum := "8d2e408cb04ee36fb0a0c07fa923c8148592fa479b8fcca69752e432a74f4d96", func := "inlay/inlaylaw22.InstallOthers", spec := "installOthers", inPlace := ["internal/bytealg.Count", "internal/bytealg.IndexByte", "internal/bytealg.Index", "slices.overlaps[int]", "internal/bytealg.MakeNoZero"], unfollowed := true, recurses := true, named := ["internal/bytealg.MaxLen"], apart := false, narrowed := true }
def InstallOthersUptoSaid : Prop := installOthersUptoRow.holds Tryz.pinned (OpenSpec.upto installOthersSpec)

/-- 'inlaylaw22.InstallStages', WHERE WHAT IT READS IS OF BULK AT MOST 1048576: true; the input reads as it did. -/
def installStagesUptoRow : OpenClaim := { program := "ytbpddeiogcgegaagreat", sum := "8d2e408cb04ee36fb0a0c07fa923c8148592fa479b8fcca69752e432a74f4d96", func := "inlay/inlaylaw22.InstallStages", spec := "installStages", inPlace := ["internal/bytealg.Count", "internal/bytealg.IndexByte", "internal/bytealg.Index", "slices.overlaps[int]", "internal/bytealg.MakeNoZero"], unfollowed := true, recurses := true, named := ["internal/bytealg.MaxLen"], apart := false, narrowed := true }
def InstallStagesUptoSaid : Prop := installStagesUptoRow.holds Tryz.pinned (OpenSpec.upto installStagesSpec)

/-- 'inlaylaw22.InstallNeeds', WHERE WHAT IT READS IS OF BULK AT MOST 1048576: true; the input reads as it did. -/
def installNeedsUptoRow : OpenClaim := { program := "ytbpddeiogcgegaagreat", sum := "8d2e408cb04ee36fb0a0c07fa923c8148592fa479b8fcca69752e432a74f4d96", func := "inlay/inlaylaw22.InstallNeeds", spec := "installNeeds", inPlace := ["internal/bytealg.Count", "internal/bytealg.IndexByte", "internal/bytealg.Index", "slices.overlaps[int]", "internal/bytealg.MakeNoZero"], unfollowed := true, recurses := true, named := ["internal/bytealg.MaxLen"], apart := false, narrowed := true }
def InstallNeedsUptoSaid : Prop := installNeedsUptoRow.holds Tryz.pinned (OpenSpec.upto installNeedsSpec)

/-- 'inlaylaw22.InstallSurvives', WHERE WHAT IT READS IS OF BULK AT MOST 1048576: true; the input reads as it did. -/
def installSurvivesUptoRow : OpenClaim := { program := "ytbpddeiogcgegaagreat", sum := "8d2e408cb04ee36fb0a0c07fa923c8148592fa479b8fcca69752e432a74f4d96", func := "inlay/inlaylaw22.InstallSurvives", spec := "installSurvives", inPlace := ["internal/bytealg.Count", "internal/bytealg.IndexByte", "internal/bytealg.Index", "slices.overlaps[int]", "internal/bytealg.MakeNoZero"], unfollowed := true, recurses := true, named := ["internal/bytealg.MaxLen"], apart := false, narrowed := true }
def InstallSurvivesUptoSaid : Prop := installSurvivesUptoRow.holds Tryz.pinned (OpenSpec.upto installSurvivesSpec)

/-- 'inlaylaw22.InstallReturns', WHERE WHAT IT READS IS OF BULK AT MOST 1048576: true; the input reads as it did. -/
def installReturnsUptoRow : OpenClaim := { program := "ytbpddeiogcgegaagreat", sum := "8d2e408cb04ee36fb0a0c07fa923c8148592fa479b8fcca69752e432a74f4d96", func := "inlay/inlaylaw22.InstallReturns", spec := "installReturns", inPlace := ["internal/bytealg.Count", "internal/bytealg.IndexByte", "internal/bytealg.Index", "slices.overlaps[int]", "internal/bytealg.MakeNoZero"], unfollowed := true, recurses := true, named := ["internal/bytealg.MaxLen"], apart := false, narrowed := true }
def InstallReturnsUptoSaid : Prop := installReturnsUptoRow.holds Tryz.pinned (OpenSpec.upto installReturnsSpec)

/-- 'inlaylaw22.InstallWaits', WHERE WHAT IT READS IS OF BULK AT MOST 1048576: true; the input reads as it did. -/
def installWaitsUptoRow : OpenClaim := { program := "ytbpddeiogcgegaagreat", sum := "8d2e408cb04ee36fb0a0c07fa923c8148592fa479b8fcca69752e432a74f4d96", func := "inlay/inlaylaw22.InstallWaits", spec := "installWaits", inPlace := ["internal/bytealg.Count", "internal/bytealg.IndexByte", "internal/bytealg.Index", "slices.overlaps[int]", "internal/bytealg.MakeNoZero"], unfollowed := true, recurses := true, named := ["internal/bytealg.MaxLen"], apart := false, narrowed := true }
def InstallWaitsUptoSaid : Prop := installWaitsUptoRow.holds Tryz.pinned (OpenSpec.upto installWaitsSpec)

end Rows
end Go.Proofs.YtbpddeiogcgegaaGreat
