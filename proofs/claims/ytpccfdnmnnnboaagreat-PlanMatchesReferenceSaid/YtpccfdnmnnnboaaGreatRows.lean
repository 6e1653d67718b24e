/-
  No cell of these rows narrows 'for every input' (looked for: loops, veiled, ifaces, maps, wideKeys, modest, calm, conditions, laid).
  DERIVED. THE GIVEN ROWS OF THIS SEAT. 7 by the template 'for every input the law returns true; each argument reads behind the call as it read before'; 0 by the template 'total and deterministic' (their statements: YtpccfdnmnnnboaaGreatTotals.lean).
  GIVEN WITH THE SEED: the statements are not yours to turn. If you find one false, say at which input.
  Laid BY PROGRAM, IN A SANDBOX (cutbox-rows.mjs): the forced cells as the released guide's own fill.sh prints them over the translation 8ad6c15d46cfdb70… (all of the seat's roots in one cut). By AI agents, Wed Nov 11 2026. No macro, syntax, notation, axiom, sorry.
-/
import Derived.Test.YtpccfdnmnnnboaaGreatChecked
import GoSem.Claim
import GoSem.ClaimJoined
import GoSem.ClaimMapViews
import Derived.JoinedTies
import Derived.KernelRfl
namespace Go.Proofs.YtpccfdnmnnnboaaGreat
/- THE CELL 'sum', in the pinned program and in every row, IS THE sha256 OF THE DUMP (.gsa) THAT YtpccfdnmnnnboaaGreatProg.lean LOADS. Nothing in Lean hashes anything: it is a label: what it is worth is what the hold of that sum in a sandbox is worth. -/
noncomputable def Tryz.pinned : Pinned := { name := "ytpccfdnmnnnboaagreat", sum := "8ad6c15d46cfdb70afbf84d641fd99ccf522ca430003459a82a2f4f4bb560fdd", checked := Tryz.checked }
namespace Rows
def none {H : Type} : Left H := { results := [], args := [] }

/-- 'inlaylaw19.PlanMatchesReference': WHATEVER THE INPUT: true; the input reads as it did. -/
def planMatchesReferenceSpec : ChangeSpec := { name := "planMatchesReference", fn := fun _ => fun
  | [d1, d2] => { results := [.lit (.bool true)], args := [d1, d2] }
  | _ => none }
def planMatchesReferenceRow : OpenClaim := { program := "ytpccfdnmnnnboaagreat", sum := "8ad6c15d46cfdb70afbf84d641fd99ccf522ca430003459a82a2f4f4bb560fdd", func := "inlay/inlaylaw19.PlanMatchesReference", spec := "planMatchesReference", inPlace := ["slices.overlaps[int]"], unfollowed := true, recurses := true, apart := false }
def PlanMatchesReferenceSaid : Prop := planMatchesReferenceRow.holds Tryz.pinned (OpenSpec.ofChange planMatchesReferenceSpec)

/-- ITS FALSE NEIGHBOUR: 'it returns false'. Refute it at one input. -/
def planMatchesReferenceWrong : ChangeSpec := { name := "planMatchesReference", fn := fun _ => fun
  | [d1, d2] => { results := [.lit (.bool false)], args := [d1, d2] }
  | _ => none }
def PlanMatchesReferenceWrongFalsely : Prop := planMatchesReferenceRow.holds Tryz.pinned (OpenSpec.ofChange planMatchesReferenceWrong)

/-- 'inlaylaw19.PlanOrders': WHATEVER THE INPUT: true; the input reads as it did. -/
def planOrdersSpec : ChangeSpec := { name := "planOrders", fn := fun _ => fun
  | [d] => { results := [.lit (.bool true)], args := [d] }
  | _ => none }
def planOrdersRow : OpenClaim := { program := "ytpccfdnmnnnboaagreat", sum := "8ad6c15d46cfdb70afbf84d641fd99ccf522ca430003459a82a2f4f4bb560fdd", func := "inlay/inlaylaw19.PlanOrders", spec := "planOrders", inPlace := ["slices.overlaps[int]"], unfollowed := true, recurses := true, apart := false }
def PlanOrdersSaid : Prop := planOrdersRow.holds Tryz.pinned (OpenSpec.ofChange planOrdersSpec)

/-- ITS FALSE NEIGHBOUR: 'it returns false'. Refute it at one input. -/
def planOrdersWrong : ChangeSpec := { name := "planOrders", fn := fun _ => fun
  | [d] => { results := [.lit (.bool false)], args := [d] }
  | _ => none }
def PlanOrdersWrongFalsely : Prop := planOrdersRow.holds Tryz.pinned (OpenSpec.ofChange planOrdersWrong)

/-- 'inlaylaw19.PlanWrites': WHATEVER THE INPUT: true; the input reads as it did. -/
def planWritesSpec : ChangeSpec := { name := "planWrites", fn := fun _ => fun
  | [d] => { results := [.lit (.bool true)], args := [d] }
  | _ => none }
def planWritesRow : OpenClaim := { program := "ytpccfdnmnnnboaagreat", sum := "8ad6c15d46cfdb70afbf84d641fd99ccf522ca430003459a82a2f4f4bb560fdd", func := "inlay/inlaylaw19.PlanWrites", spec := "planWrites", inPlace := ["slices.overlaps[int]"], unfollowed := true, recurses := true, apart := false }
def PlanWritesSaid : Prop := planWritesRow.holds Tryz.pinned (OpenSpec.ofChange planWritesSpec)

/-- ITS FALSE NEIGHBOUR: 'it returns false'. Refute it at one input. -/
def planWritesWrong : ChangeSpec := { name := "planWrites", fn := fun _ => fun
  | [d] => { results := [.lit (.bool false)], args := [d] }
  | _ => none }
def PlanWritesWrongFalsely : Prop := planWritesRow.holds Tryz.pinned (OpenSpec.ofChange planWritesWrong)

/-- 'inlaylaw19.PlanValid': WHATEVER THE INPUT: true; the input reads as it did. -/
def planValidSpec : ChangeSpec := { name := "planValid", fn := fun _ => fun
  | [d1, d2] => { results := [.lit (.bool true)], args := [d1, d2] }
  | _ => none }
def planValidRow : OpenClaim := { program := "ytpccfdnmnnnboaagreat", sum := "8ad6c15d46cfdb70afbf84d641fd99ccf522ca430003459a82a2f4f4bb560fdd", func := "inlay/inlaylaw19.PlanValid", spec := "planValid", inPlace := ["slices.overlaps[int]"], unfollowed := true, recurses := true, apart := false }
def PlanValidSaid : Prop := planValidRow.holds Tryz.pinned (OpenSpec.ofChange planValidSpec)

/-- ITS FALSE NEIGHBOUR: 'it returns false'. Refute it at one input. -/
def planValidWrong : ChangeSpec := { name := "planValid", fn := fun _ => fun
  | [d1, d2] => { results := [.lit (.bool false)], args := [d1, d2] }
  | _ => none }
def PlanValidWrongFalsely : Prop := planValidRow.holds Tryz.pinned (OpenSpec.ofChange planValidWrong)

/-- 'inlaylaw19.PlanContents': WHATEVER THE INPUT: true; the input reads as it did. -/
def planContentsSpec : ChangeSpec := { name := "planContents", fn := fun _ => fun
  | [d1, d2] => { results := [.lit (.bool true)], args := [d1, d2] }
  | _ => none }
def planContentsRow : OpenClaim := { program := "ytpccfdnmnnnboaagreat", sum := "8ad6c15d46cfdb70afbf84d641fd99ccf522ca430003459a82a2f4f4bb560fdd", func := "inlay/inlaylaw19.PlanContents", spec := "planContents", inPlace := ["slices.overlaps[int]"], unfollowed := true, recurses := true, apart := false }
def PlanContentsSaid : Prop := planContentsRow.holds Tryz.pinned (OpenSpec.ofChange planContentsSpec)

/-- ITS FALSE NEIGHBOUR: 'it returns false'. Refute it at one input. -/
def planContentsWrong : ChangeSpec := { name := "planContents", fn := fun _ => fun
  | [d1, d2] => { results := [.lit (.bool false)], args := [d1, d2] }
  | _ => none }
def PlanContentsWrongFalsely : Prop := planContentsRow.holds Tryz.pinned (OpenSpec.ofChange planContentsWrong)

/-- 'inlaylaw19.PlanNeeds': WHATEVER THE INPUT: true; the input reads as it did. -/
def planNeedsSpec : ChangeSpec := { name := "planNeeds", fn := fun _ => fun
  | [d] => { results := [.lit (.bool true)], args := [d] }
  | _ => none }
def planNeedsRow : OpenClaim := { program := "ytpccfdnmnnnboaagreat", sum := "8ad6c15d46cfdb70afbf84d641fd99ccf522ca430003459a82a2f4f4bb560fdd", func := "inlay/inlaylaw19.PlanNeeds", spec := "planNeeds", inPlace := ["slices.overlaps[int]"], unfollowed := true, recurses := true, apart := false }
def PlanNeedsSaid : Prop := planNeedsRow.holds Tryz.pinned (OpenSpec.ofChange planNeedsSpec)

/-- ITS FALSE NEIGHBOUR: 'it returns false'. Refute it at one input. -/
def planNeedsWrong : ChangeSpec := { name := "planNeeds", fn := fun _ => fun
  | [d] => { results := [.lit (.bool false)], args := [d] }
  | _ => none }
def PlanNeedsWrongFalsely : Prop := planNeedsRow.holds Tryz.pinned (OpenSpec.ofChange planNeedsWrong)

/-- 'inlaylaw19.PlanLacks': WHATEVER THE INPUT: true; the input reads as it did. -/
def planLacksSpec : ChangeSpec := { name := "planLacks", fn := fun _ => fun
  | [d] => { results := [.lit (.bool true)], args := [d] }
  | _ => none }
def planLacksRow : OpenClaim := { program := "ytpccfdnmnnnboaagreat", sum := "8ad6c15d46cfdb70afbf84d641fd99ccf522ca430003459a82a2f4f4bb560fdd", func := "inlay/inlaylaw19.PlanLacks", spec := "planLacks", inPlace := ["slices.overlaps[int]"], unfollowed := true, recurses := true, apart := false }
def PlanLacksSaid : Prop := planLacksRow.holds Tryz.pinned (OpenSpec.ofChange planLacksSpec)

/-- ITS FALSE NEIGHBOUR: 'it returns false'. Refute it at one input. -/
def planLacksWrong : ChangeSpec := { name := "planLacks", fn := fun _ => fun
  | [d] => { results := [.lit (.bool false)], args := [d] }
  | _ => none }
def PlanLacksWrongFalsely : Prop := planLacksRow.holds Tryz.pinned (OpenSpec.ofChange planLacksWrong)

/- THE SECOND FORM. 'bulk': how many values and letters a reading holds, each counted each time it is reached (what is shared counts as often as it is met; a slice's spare places count too). A statement '..UptoSaid' is the law's where the arguments, and the package variables that the reading takes, are together of bulk at most 1048576: NARROWER than '..Said'. Prove '..Said' where nothing that the law and all that it calls make is longer than what came in: it says more and counts as full. Else prove '..UptoSaid'. A law counts once. -/
mutual
def uptoBulk {H : Type} : DataW H → Nat
  | .lit (.string bytes) => bytes.length + 1
  | .lit _ => 1
  | .nil => 1
  | .ptr d => uptoBulk d + 1
  | .slice elems spare => uptoBulkAll elems + uptoBulkAll spare + 1
  | .agg parts => uptoBulkAll parts + 1
  | .iface _ d => uptoBulk d + 1
  | .map entries => uptoBulkEntries entries + 1
  | .held _ => 1
def uptoBulkAll {H : Type} : List (DataW H) → Nat
  | [] => 0
  | d :: r => uptoBulk d + uptoBulkAll r
def uptoBulkEntries {H : Type} : List (Lit × DataW H) → Nat
  | [] => 0
  | x :: r => uptoBulkEntry x + uptoBulkEntries r
def uptoBulkEntry {H : Type} : Lit × DataW H → Nat
  | (.string bytes, d) => bytes.length + uptoBulk d + 1
  | (_, d) => uptoBulk d + 1
 end
def uptoSmall : (H : Type) → List (DataW H) → Bool := fun _ ds => decide (uptoBulkAll ds ≤ 1048576)
def OpenSpec.upto (s : _root_.Go.ChangeSpec) : _root_.Go.OpenSpec := { _root_.Go.OpenSpec.ofChange s with cond := some uptoSmall }

/-- 'inlaylaw19.PlanMatchesReference', WHERE WHAT IT READS IS OF BULK AT MOST 1048576: true; the input reads as it did. -/
def planMatchesReferenceUptoRow : OpenClaim := { program := "ytpccfdnmnnnboaagreat", sum := "8ad6c15d46cfdb70afbf84d641fd99ccf522ca430003459a82a2f4f4bb560fdd", func := "inlay/inlaylaw19.PlanMatchesReference", spec := "planMatchesReference", inPlace := ["slices.overlaps[int]"], unfollowed := true, recurses := true, apart := false, narrowed := true }
def PlanMatchesReferenceUptoSaid : Prop := planMatchesReferenceUptoRow.holds Tryz.pinned (OpenSpec.upto planMatchesReferenceSpec)

/-- 'inlaylaw19.PlanOrders', WHERE WHAT IT READS IS OF BULK AT MOST 1048576: true; the input reads as it did. -/
def planOrdersUptoRow : OpenClaim := { program := "ytpccfdnmnnnboaagreat", sum := "8ad6c15d46cfdb70afbf84d641fd99ccf522ca430003459a82a2f4f4bb560fdd", func := "inlay/inlaylaw19.PlanOrders", spec := "planOrders", inPlace := ["slices.overlaps[int]"], unfollowed := true, recurses := true, apart := false, narrowed := true }
def PlanOrdersUptoSaid : Prop := planOrdersUptoRow.holds Tryz.pinned (OpenSpec.upto planOrdersSpec)

/-- 'inlaylaw19.PlanWrites', WHERE WHAT IT READS IS OF BULK AT MOST 1048576: true; the input reads as it did. -/
def planWritesUptoRow : OpenClaim := { program := "ytpccfdnmnnnboaagreat", sum := "8ad6c15d46cfdb70afbf84d641fd99ccf522ca430003459a82a2f4f4bb560fdd", func := "inlay/inlaylaw19.PlanWrites", spec := "planWrites", inPlace := ["slices.overlaps[int]"], unfollowed := true, recurses := true, apart := false, narrowed := true }
def PlanWritesUptoSaid : Prop := planWritesUptoRow.holds Tryz.pinned (OpenSpec.upto planWritesSpec)

/-- 'inlaylaw19.PlanValid', WHERE WHAT IT READS IS OF BULK AT MOST 1048576: true; the input reads as it did. -/
def planValidUptoRow : OpenClaim := { program := "ytpccfdnmnnnboaagreat", sum := "8ad6c15d46cfdb70afbf84d641fd99ccf522ca430003459a82a2f4f4bb560fdd", func := "inlay/inlaylaw19.PlanValid", spec := "planValid", inPlace := ["slices.overlaps[int]"], unfollowed := true, recurses := true, apart := false, narrowed := true }
def PlanValidUptoSaid : Prop := planValidUptoRow.holds Tryz.pinned (OpenSpec.upto planValidSpec)

/-- 'inlaylaw19.PlanContents', WHERE WHAT IT READS IS OF BULK AT MOST 1048576: true; the input reads as it did. -/
def planContentsUptoRow : OpenClaim := { program := "ytpccfdnmnnnboaagreat", sum := "8ad6c15d46cfdb70afbf84d641fd99ccf522ca430003459a82a2f4f4bb560fdd", func := "inlay/inlaylaw19.PlanContents", spec := "planContents", inPlace := ["slices.overlaps[int]"], unfollowed := true, recurses := true, apart := false, narrowed := true }
def PlanContentsUptoSaid : Prop := planContentsUptoRow.holds Tryz.pinned (OpenSpec.upto planContentsSpec)

/-- 'inlaylaw19.PlanNeeds', WHERE WHAT IT READS IS OF BULK AT MOST 1048576: true; the input reads as it did. -/
def planNeedsUptoRow : OpenClaim := { program := "ytpccfdnmnnnboaagreat", sum := "8ad6c15d46cfdb70afbf84d641fd99ccf522ca430003459a82a2f4f4bb560fdd", func := "inlay/inlaylaw19.PlanNeeds", spec := "planNeeds", inPlace := ["slices.overlaps[int]"], unfollowed := true, recurses := true, apart := false, narrowed := true }
def PlanNeedsUptoSaid : Prop := planNeedsUptoRow.holds Tryz.pinned (OpenSpec.upto planNeedsSpec)

/-- 'inlaylaw19.PlanLacks', WHERE WHAT IT READS IS OF BULK AT MOST 1048576: true; the input reads as it did. -/
def planLacksUptoRow : OpenClaim := { program := "ytpccfdnmnnnboaagreat", sum := "8ad6c15d46cfdb70afbf84d641fd99ccf522ca430003459a82a2f4f4bb560fdd", func := "inlay/inlaylaw19.PlanLacks", spec := "planLacks", inPlace := ["slices.overlaps[int]"], unfollowed := true, recurses := true, apart := false, narrowed := true }
def PlanLacksUptoSaid : Prop := planLacksUptoRow.holds Tryz.pinned (OpenSpec.upto planLacksSpec)

end Rows
end Go.Proofs.YtpccfdnmnnnboaaGreat
