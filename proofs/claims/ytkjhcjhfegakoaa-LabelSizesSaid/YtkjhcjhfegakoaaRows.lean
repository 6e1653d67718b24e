/-
  No cell of these rows narrows 'for every input' (looked for: loops, veiled, ifaces, maps, wideKeys, modest, calm, conditions, laid).
  DERIVED. THE GIVEN ROWS OF THIS SEAT. 8 by the template 'for every input the law returns true; each argument reads behind the call as it read before'; 0 by the template 'total and deterministic' (their statements: YtkjhcjhfegakoaaTotals.lean).
  GIVEN WITH THE SEED: the statements are not yours to turn. If you find one false, say at which input.
  Laid BY PROGRAM, IN A SANDBOX (cutbox-rows.mjs): the forced cells as the released guide's own fill.sh prints them over the translation 8da798b1bcb47311… (all of the seat's roots in one cut). By AI agents, Wed Nov 11 2026. No macro, syntax, notation, axiom, sorry.
-/
import Derived.Test.YtkjhcjhfegakoaaChecked
import GoSem.Claim
import GoSem.ClaimJoined
import GoSem.ClaimMapViews
import Derived.JoinedTies
import Derived.KernelRfl
namespace Go.Proofs.Ytkjhcjhfegakoaa
/- THE CELL 'sum', in the pinned program and in every row, IS THE sha256 OF THE DUMP (.gsa) THAT YtkjhcjhfegakoaaProg.lean LOADS. Nothing in Lean hashes anything: it is a label: what it is worth is what the hold of that sum in a sandbox is worth. -/
noncomputable def Try.pinned : Pinned := { name := "ytkjhcjhfegakoaa", sum := "8da798b1bcb47311f89321acb2581beab6bf40d66709dad2181a73f64d77e8a5", checked := Try.checked }
namespace Rows
def none {H : Type} : Left H := { results := [], args := [] }

/-- 'inlaylaw03.LabelMatchesReference': WHATEVER THE INPUT: true; the input reads as it did. -/
def labelMatchesReferenceSpec : ChangeSpec := { name := "labelMatchesReference", fn := fun _ => fun
  | [d1, d2] => { results := [.lit (.bool true)], args := [d1, d2] }
  | _ => none }
def labelMatchesReferenceRow : OpenClaim := { program := "ytkjhcjhfegakoaa", sum := "8da798b1bcb47311f89321acb2581beab6bf40d66709dad2181a73f64d77e8a5", func := "inlay/inlaylaw03.LabelMatchesReference", spec := "labelMatchesReference", inPlace := ["slices.overlaps[uint32]", "slices.overlaps[bool]"], unfollowed := true, recurses := true, apart := false }
def LabelMatchesReferenceSaid : Prop := labelMatchesReferenceRow.holds Try.pinned (OpenSpec.ofChange labelMatchesReferenceSpec)

/-- ITS FALSE NEIGHBOUR: 'it returns false'. Refute it at one input. -/
def labelMatchesReferenceWrong : ChangeSpec := { name := "labelMatchesReference", fn := fun _ => fun
  | [d1, d2] => { results := [.lit (.bool false)], args := [d1, d2] }
  | _ => none }
def LabelMatchesReferenceWrongFalsely : Prop := labelMatchesReferenceRow.holds Try.pinned (OpenSpec.ofChange labelMatchesReferenceWrong)

/-- 'inlaylaw03.LabelInverts': WHATEVER THE INPUT: true; the input reads as it did. -/
def labelInvertsSpec : ChangeSpec := { name := "labelInverts", fn := fun _ => fun
  | [d] => { results := [.lit (.bool true)], args := [d] }
  | _ => none }
def labelInvertsRow : OpenClaim := { program := "ytkjhcjhfegakoaa", sum := "8da798b1bcb47311f89321acb2581beab6bf40d66709dad2181a73f64d77e8a5", func := "inlay/inlaylaw03.LabelInverts", spec := "labelInverts", inPlace := ["slices.overlaps[uint32]", "slices.overlaps[bool]"], unfollowed := true, recurses := true, apart := false }
def LabelInvertsSaid : Prop := labelInvertsRow.holds Try.pinned (OpenSpec.ofChange labelInvertsSpec)

/-- ITS FALSE NEIGHBOUR: 'it returns false'. Refute it at one input. -/
def labelInvertsWrong : ChangeSpec := { name := "labelInverts", fn := fun _ => fun
  | [d] => { results := [.lit (.bool false)], args := [d] }
  | _ => none }
def LabelInvertsWrongFalsely : Prop := labelInvertsRow.holds Try.pinned (OpenSpec.ofChange labelInvertsWrong)

/-- 'inlaylaw03.LabelTargets': WHATEVER THE INPUT: true; the input reads as it did. -/
def labelTargetsSpec : ChangeSpec := { name := "labelTargets", fn := fun _ => fun
  | [d] => { results := [.lit (.bool true)], args := [d] }
  | _ => none }
def labelTargetsRow : OpenClaim := { program := "ytkjhcjhfegakoaa", sum := "8da798b1bcb47311f89321acb2581beab6bf40d66709dad2181a73f64d77e8a5", func := "inlay/inlaylaw03.LabelTargets", spec := "labelTargets", inPlace := ["slices.overlaps[uint32]", "slices.overlaps[bool]"], unfollowed := true, recurses := true, apart := false }
def LabelTargetsSaid : Prop := labelTargetsRow.holds Try.pinned (OpenSpec.ofChange labelTargetsSpec)

/-- ITS FALSE NEIGHBOUR: 'it returns false'. Refute it at one input. -/
def labelTargetsWrong : ChangeSpec := { name := "labelTargets", fn := fun _ => fun
  | [d] => { results := [.lit (.bool false)], args := [d] }
  | _ => none }
def LabelTargetsWrongFalsely : Prop := labelTargetsRow.holds Try.pinned (OpenSpec.ofChange labelTargetsWrong)

/-- 'inlaylaw03.LabelLowers': WHATEVER THE INPUT: true; the input reads as it did. -/
def labelLowersSpec : ChangeSpec := { name := "labelLowers", fn := fun _ => fun
  | [d1, d2, d3] => { results := [.lit (.bool true)], args := [d1, d2, d3] }
  | _ => none }
def labelLowersRow : OpenClaim := { program := "ytkjhcjhfegakoaa", sum := "8da798b1bcb47311f89321acb2581beab6bf40d66709dad2181a73f64d77e8a5", func := "inlay/inlaylaw03.LabelLowers", spec := "labelLowers", inPlace := ["slices.overlaps[uint32]", "slices.overlaps[bool]"], unfollowed := true, recurses := true, apart := false }
def LabelLowersSaid : Prop := labelLowersRow.holds Try.pinned (OpenSpec.ofChange labelLowersSpec)

/-- ITS FALSE NEIGHBOUR: 'it returns false'. Refute it at one input. -/
def labelLowersWrong : ChangeSpec := { name := "labelLowers", fn := fun _ => fun
  | [d1, d2, d3] => { results := [.lit (.bool false)], args := [d1, d2, d3] }
  | _ => none }
def LabelLowersWrongFalsely : Prop := labelLowersRow.holds Try.pinned (OpenSpec.ofChange labelLowersWrong)

/-- 'inlaylaw03.LabelReads': WHATEVER THE INPUT: true; the input reads as it did. -/
def labelReadsSpec : ChangeSpec := { name := "labelReads", fn := fun _ => fun
  | [d1, d2, d3] => { results := [.lit (.bool true)], args := [d1, d2, d3] }
  | _ => none }
def labelReadsRow : OpenClaim := { program := "ytkjhcjhfegakoaa", sum := "8da798b1bcb47311f89321acb2581beab6bf40d66709dad2181a73f64d77e8a5", func := "inlay/inlaylaw03.LabelReads", spec := "labelReads", inPlace := ["slices.overlaps[uint32]", "slices.overlaps[bool]"], unfollowed := true, recurses := true, apart := false }
def LabelReadsSaid : Prop := labelReadsRow.holds Try.pinned (OpenSpec.ofChange labelReadsSpec)

/-- ITS FALSE NEIGHBOUR: 'it returns false'. Refute it at one input. -/
def labelReadsWrong : ChangeSpec := { name := "labelReads", fn := fun _ => fun
  | [d1, d2, d3] => { results := [.lit (.bool false)], args := [d1, d2, d3] }
  | _ => none }
def LabelReadsWrongFalsely : Prop := labelReadsRow.holds Try.pinned (OpenSpec.ofChange labelReadsWrong)

/-- 'inlaylaw03.LabelMoves': WHATEVER THE INPUT: true; the input reads as it did. -/
def labelMovesSpec : ChangeSpec := { name := "labelMoves", fn := fun _ => fun
  | [d1, d2] => { results := [.lit (.bool true)], args := [d1, d2] }
  | _ => none }
def labelMovesRow : OpenClaim := { program := "ytkjhcjhfegakoaa", sum := "8da798b1bcb47311f89321acb2581beab6bf40d66709dad2181a73f64d77e8a5", func := "inlay/inlaylaw03.LabelMoves", spec := "labelMoves", inPlace := ["slices.overlaps[uint32]", "slices.overlaps[bool]"], unfollowed := true, recurses := true, apart := false }
def LabelMovesSaid : Prop := labelMovesRow.holds Try.pinned (OpenSpec.ofChange labelMovesSpec)

/-- ITS FALSE NEIGHBOUR: 'it returns false'. Refute it at one input. -/
def labelMovesWrong : ChangeSpec := { name := "labelMoves", fn := fun _ => fun
  | [d1, d2] => { results := [.lit (.bool false)], args := [d1, d2] }
  | _ => none }
def LabelMovesWrongFalsely : Prop := labelMovesRow.holds Try.pinned (OpenSpec.ofChange labelMovesWrong)

/-- 'inlaylaw03.LabelKeeps': WHATEVER THE INPUT: true; the input reads as it did. -/
def labelKeepsSpec : ChangeSpec := { name := "labelKeeps", fn := fun _ => fun
  | [d1, d2] => { results := [.lit (.bool true)], args := [d1, d2] }
  | _ => none }
def labelKeepsRow : OpenClaim := { program := "ytkjhcjhfegakoaa", sum := "8da798b1bcb47311f89321acb2581beab6bf40d66709dad2181a73f64d77e8a5", func := "inlay/inlaylaw03.LabelKeeps", spec := "labelKeeps", inPlace := ["slices.overlaps[uint32]", "slices.overlaps[bool]"], unfollowed := true, recurses := true, apart := false }
def LabelKeepsSaid : Prop := labelKeepsRow.holds Try.pinned (OpenSpec.ofChange labelKeepsSpec)

/-- ITS FALSE NEIGHBOUR: 'it returns false'. Refute it at one input. -/
def labelKeepsWrong : ChangeSpec := { name := "labelKeeps", fn := fun _ => fun
  | [d1, d2] => { results := [.lit (.bool false)], args := [d1, d2] }
  | _ => none }
def LabelKeepsWrongFalsely : Prop := labelKeepsRow.holds Try.pinned (OpenSpec.ofChange labelKeepsWrong)

/-- 'inlaylaw03.LabelSizes': WHATEVER THE INPUT: true; the input reads as it did. -/
def labelSizesSpec : ChangeSpec := { name := "labelSizes", fn := fun _ => fun
  | [d1, d2, d3] => { results := [.lit (.bool true)], args := [d1, d2, d3] }
  | _ => none }
def labelSizesRow : OpenClaim := { program := "ytkjhcjhfegakoaa", sum := "8da798b1bcb47311f89321acb2581beab6bf40d66709dad2181a73f64d77e8a5", func := "inlay/inlaylaw03.LabelSizes", spec := "labelSizes", inPlace := ["slices.overlaps[uint32]", "slices.overlaps[bool]"], unfollowed := true, recurses := true, apart := false }
def LabelSizesSaid : Prop := labelSizesRow.holds Try.pinned (OpenSpec.ofChange labelSizesSpec)

/-- ITS FALSE NEIGHBOUR: 'it returns false'. Refute it at one input. -/
def labelSizesWrong : ChangeSpec := { name := "labelSizes", fn := fun _ => fun
  | [d1, d2, d3] => { results := [.lit (.bool false)], args := [d1, d2, d3] }
  | _ => none }
def LabelSizesWrongFalsely : Prop := labelSizesRow.holds Try.pinned (OpenSpec.ofChange labelSizesWrong)

/- THE SECOND FORM. 'bulk': how many values and letters a reading holds, each counted each time it is reached (what is shared counts as often as it is met; a slice's spare places count too). A statement '..UptoSaid' is the law's where the arguments, and the package variables that the reading takes, are together of bulk at most 1048576: NARROWER than '..Said'. Prove '..Said' where nothing that the law and all that it calls make is longer than what came in: it says more and counts as full. Else prove '..UptoSaid'. A law counts once. -/
mutual
def uptoBulk {H : Type} : DataW H → Nat
  | .lit (.string bytes) => bytes.length + 1
  | .lit _ => 1
  | .nil => 1
  | .ptr d => uptoBulk d + 1
  | .slice elems spare => uptoBulkAll elems + uptoBulkAll spare + 1
  | .agg parts => uptoBulkAll parts + 1
  | .iface _ d => uptoBulk d + 1
  | .map entries => uptoBulkEntries entries + 1
  | .held _ => 1
def uptoBulkAll {H : Type} : List (DataW H) → Nat
  | [] => 0
  | d :: r => uptoBulk d + uptoBulkAll r
def uptoBulkEntries {H : Type} : List (Lit × DataW H) → Nat
  | [] => 0
  | x :: r => uptoBulkEntry x + uptoBulkEntries r
def uptoBulkEntry {H : Type} : Lit × DataW H → Nat
  | (.string bytes, d) => bytes.length + uptoBulk d + 1
  | (_, d) => uptoBulk d + 1
 end
def uptoSmall : (H : Type) → List (DataW H) → Bool := fun _ ds => decide (uptoBulkAll ds ≤ 1048576)
def OpenSpec.upto (s : _root_.Go.ChangeSpec) : _root_.Go.OpenSpec := { _root_.Go.OpenSpec.ofChange s with cond := some uptoSmall }

/-- 'inlaylaw03.LabelMatchesReference', WHERE WHAT IT READS IS OF BULK AT MOST 1048576: true; the input reads as it did. -/
def labelMatchesReferenceUptoRow : OpenClaim := { program := "ytkjhcjhfegakoaa", sum := "8da798b1bcb47311f89321acb2581beab6bf40d66709dad2181a73f64d77e8a5", func := "inlay/inlaylaw03.LabelMatchesReference", spec := "labelMatchesReference", inPlace := ["slices.overlaps[uint32]", "slices.overlaps[bool]"], unfollowed := true, recurses := true, apart := false, narrowed := true }
def LabelMatchesReferenceUptoSaid : Prop := labelMatchesReferenceUptoRow.holds Try.pinned (OpenSpec.upto labelMatchesReferenceSpec)

/-- 'inlaylaw03.LabelInverts', WHERE WHAT IT READS IS OF BULK AT MOST 1048576: true; the input reads as it did. -/
def labelInvertsUptoRow : OpenClaim := { program := "ytkjhcjhfegakoaa", sum := "8da798b1bcb47311f89321acb2581beab6bf40d66709dad2181a73f64d77e8a5", func := "inlay/inlaylaw03.LabelInverts", spec := "labelInverts", inPlace := ["slices.overlaps[uint32]", "slices.overlaps[bool]"], unfollowed := true, recurses := true, apart := false, narrowed := true }
def LabelInvertsUptoSaid : Prop := labelInvertsUptoRow.holds Try.pinned (OpenSpec.upto labelInvertsSpec)

/-- 'inlaylaw03.LabelTargets', WHERE WHAT IT READS IS OF BULK AT MOST 1048576: true; the input reads as it did. -/
def labelTargetsUptoRow : OpenClaim := { program := "ytkjhcjhfegakoaa", sum := "8da798b1bcb47311f89321acb2581beab6bf40d66709dad2181a73f64d77e8a5", func := "inlay/inlaylaw03.LabelTargets", spec := "labelTargets", inPlace := ["slices.overlaps[uint32]", "slices.overlaps[bool]"], unfollowed := true, recurses := true, apart := false, narrowed := true }
def LabelTargetsUptoSaid : Prop := labelTargetsUptoRow.holds Try.pinned (OpenSpec.upto labelTargetsSpec)

/-- 'inlaylaw03.LabelLowers', WHERE WHAT IT READS IS OF BULK AT MOST 1048576: true; the input reads as it did. -/
def labelLowersUptoRow : OpenClaim := { program := "ytkjhcjhfegakoaa", sum := "8da798b1bcb47311f89321acb2581beab6bf40d66709dad2181a73f64d77e8a5", func := "inlay/inlaylaw03.LabelLowers", spec := "labelLowers", inPlace := ["slices.overlaps[uint32]", "slices.overlaps[bool]"], unfollowed := true, recurses := true, apart := false, narrowed := true }
def LabelLowersUptoSaid : Prop := labelLowersUptoRow.holds Try.pinned (OpenSpec.upto labelLowersSpec)

/-- 'inlaylaw03.LabelReads', WHERE WHAT IT READS IS OF BULK AT MOST 1048576: true; the input reads as it did. -/
def labelReadsUptoRow : OpenClaim := { program := "ytkjhcjhfegakoaa", sum := "8da798b1bcb47311f89321acb2581beab6bf40d66709dad2181a73f64d77e8a5", func := "inlay/inlaylaw03.LabelReads", spec := "labelReads", inPlace := ["slices.overlaps[uint32]", "slices.overlaps[bool]"], unfollowed := true, recurses := true, apart := false, narrowed := true }
def LabelReadsUptoSaid : Prop := labelReadsUptoRow.holds Try.pinned (OpenSpec.upto labelReadsSpec)

/-- 'inlaylaw03.LabelMoves', WHERE WHAT IT READS IS OF BULK AT MOST 1048576: true; the input reads as it did. -/
def labelMovesUptoRow : OpenClaim := { program := "ytkjhcjhfegakoaa", sum := "8da798b1bcb47311f89321acb2581beab6bf40d66709dad2181a73f64d77e8a5", func := "inlay/inlaylaw03.LabelMoves", spec := "labelMoves", inPlace := ["slices.overlaps[uint32]", "slices.overlaps[bool]"], unfollowed := true, recurses := true, apart := false, narrowed := true }
def LabelMovesUptoSaid : Prop := labelMovesUptoRow.holds Try.pinned (OpenSpec.upto labelMovesSpec)

/-- 'inlaylaw03.LabelKeeps', WHERE WHAT IT READS IS OF BULK AT MOST 1048576: true; the input reads as it did. -/
def labelKeepsUptoRow : OpenClaim := { program := "ytkjhcjhfegakoaa", sum := "8da798b1bcb47311f89321acb2581beab6bf40d66709dad2181a73f64d77e8a5", func := "inlay/inlaylaw03.LabelKeeps", spec := "labelKeeps", inPlace := ["slices.overlaps[uint32]", "slices.overlaps[bool]"], unfollowed := true, recurses := true, apart := false, narrowed := true }
def LabelKeepsUptoSaid : Prop := labelKeepsUptoRow.holds Try.pinned (OpenSpec.upto labelKeepsSpec)

/-- 'inlaylaw03.LabelSizes', WHERE WHAT IT READS IS OF BULK AT MOST 1048576: true; the input reads as it did. -/
def labelSizesUptoRow : OpenClaim := { program := "ytkjhcjhfegakoaa", sum := "8da798b1bcb47311f89321acb2581beab6bf40d66709dad2181a73f64d77e8a5", func := "inlay/inlaylaw03.LabelSizes", spec := "labelSizes", inPlace := ["slices.overlaps[uint32]", "slices.overlaps[bool]"], unfollowed := true, recurses := true, apart := false, narrowed := true }
def LabelSizesUptoSaid : Prop := labelSizesUptoRow.holds Try.pinned (OpenSpec.upto labelSizesSpec)

end Rows
end Go.Proofs.Ytkjhcjhfegakoaa
