/-
  No cell of these rows narrows 'for every input' (looked for: loops, veiled, ifaces, maps, wideKeys, modest, calm, conditions, laid).
  DERIVED. THE GIVEN ROWS OF THIS SEAT. 7 by the template 'for every input the law returns true; each argument reads behind the call as it read before'; 0 by the template 'total and deterministic' (their statements: YtklbkaefjjonmaaTotals.lean).
  GIVEN WITH THE SEED: the statements are not yours to turn. If you find one false, say at which input.
  Laid BY PROGRAM, IN A SANDBOX (cutbox-rows.mjs): the forced cells as the released guide's own fill.sh prints them over the translation 88bf4d03829448cd… (all of the seat's roots in one cut). By AI agents, Wed Nov 11 2026. No macro, syntax, notation, axiom, sorry.
-/
import Derived.Test.YtklbkaefjjonmaaChecked
import GoSem.Claim
import GoSem.ClaimJoined
import GoSem.ClaimMapViews
import Derived.JoinedTies
import Derived.KernelRfl
namespace Go.Proofs.Ytklbkaefjjonmaa
/- THE CELL 'sum', in the pinned program and in every row, IS THE sha256 OF THE DUMP (.gsa) THAT YtklbkaefjjonmaaProg.lean LOADS. Nothing in Lean hashes anything: it is a label: what it is worth is what the hold of that sum in a sandbox is worth. -/
noncomputable def Try.pinned : Pinned := { name := "ytklbkaefjjonmaa", sum := "88bf4d03829448cd9732c2ea0b24ecdf0009a7c7c43193eca3dccaec31877be3", checked := Try.checked }
namespace Rows
def none {H : Type} : Left H := { results := [], args := [] }

/-- 'inlaylaw18.OrderMatchesReference': WHATEVER THE INPUT: true; the input reads as it did. -/
def orderMatchesReferenceSpec : ChangeSpec := { name := "orderMatchesReference", fn := fun _ => fun
  | [d] => { results := [.lit (.bool true)], args := [d] }
  | _ => none }
def orderMatchesReferenceRow : OpenClaim := { program := "ytklbkaefjjonmaa", sum := "88bf4d03829448cd9732c2ea0b24ecdf0009a7c7c43193eca3dccaec31877be3", func := "inlay/inlaylaw18.OrderMatchesReference", spec := "orderMatchesReference", inPlace := ["slices.overlaps[int]"], unfollowed := true, recurses := true, apart := false }
def OrderMatchesReferenceSaid : Prop := orderMatchesReferenceRow.holds Try.pinned (OpenSpec.ofChange orderMatchesReferenceSpec)

/-- ITS FALSE NEIGHBOUR: 'it returns false'. Refute it at one input. -/
def orderMatchesReferenceWrong : ChangeSpec := { name := "orderMatchesReference", fn := fun _ => fun
  | [d] => { results := [.lit (.bool false)], args := [d] }
  | _ => none }
def OrderMatchesReferenceWrongFalsely : Prop := orderMatchesReferenceRow.holds Try.pinned (OpenSpec.ofChange orderMatchesReferenceWrong)

/-- 'inlaylaw18.OrderReads': WHATEVER THE INPUT: true; the input reads as it did. -/
def orderReadsSpec : ChangeSpec := { name := "orderReads", fn := fun _ => fun
  | [d1, d2, d3] => { results := [.lit (.bool true)], args := [d1, d2, d3] }
  | _ => none }
def orderReadsRow : OpenClaim := { program := "ytklbkaefjjonmaa", sum := "88bf4d03829448cd9732c2ea0b24ecdf0009a7c7c43193eca3dccaec31877be3", func := "inlay/inlaylaw18.OrderReads", spec := "orderReads", inPlace := ["slices.overlaps[int]"], unfollowed := true, recurses := true, apart := false }
def OrderReadsSaid : Prop := orderReadsRow.holds Try.pinned (OpenSpec.ofChange orderReadsSpec)

/-- ITS FALSE NEIGHBOUR: 'it returns false'. Refute it at one input. -/
def orderReadsWrong : ChangeSpec := { name := "orderReads", fn := fun _ => fun
  | [d1, d2, d3] => { results := [.lit (.bool false)], args := [d1, d2, d3] }
  | _ => none }
def OrderReadsWrongFalsely : Prop := orderReadsRow.holds Try.pinned (OpenSpec.ofChange orderReadsWrong)

/-- 'inlaylaw18.OrderRight': WHATEVER THE INPUT: true; the input reads as it did. -/
def orderRightSpec : ChangeSpec := { name := "orderRight", fn := fun _ => fun
  | [d1, d2] => { results := [.lit (.bool true)], args := [d1, d2] }
  | _ => none }
def orderRightRow : OpenClaim := { program := "ytklbkaefjjonmaa", sum := "88bf4d03829448cd9732c2ea0b24ecdf0009a7c7c43193eca3dccaec31877be3", func := "inlay/inlaylaw18.OrderRight", spec := "orderRight", inPlace := ["slices.overlaps[int]"], unfollowed := true, recurses := true, apart := false }
def OrderRightSaid : Prop := orderRightRow.holds Try.pinned (OpenSpec.ofChange orderRightSpec)

/-- ITS FALSE NEIGHBOUR: 'it returns false'. Refute it at one input. -/
def orderRightWrong : ChangeSpec := { name := "orderRight", fn := fun _ => fun
  | [d1, d2] => { results := [.lit (.bool false)], args := [d1, d2] }
  | _ => none }
def OrderRightWrongFalsely : Prop := orderRightRow.holds Try.pinned (OpenSpec.ofChange orderRightWrong)

/-- 'inlaylaw18.OrderLeast': WHATEVER THE INPUT: true; the input reads as it did. -/
def orderLeastSpec : ChangeSpec := { name := "orderLeast", fn := fun _ => fun
  | [d1, d2] => { results := [.lit (.bool true)], args := [d1, d2] }
  | _ => none }
def orderLeastRow : OpenClaim := { program := "ytklbkaefjjonmaa", sum := "88bf4d03829448cd9732c2ea0b24ecdf0009a7c7c43193eca3dccaec31877be3", func := "inlay/inlaylaw18.OrderLeast", spec := "orderLeast", inPlace := ["slices.overlaps[int]"], unfollowed := true, recurses := true, apart := false }
def OrderLeastSaid : Prop := orderLeastRow.holds Try.pinned (OpenSpec.ofChange orderLeastSpec)

/-- ITS FALSE NEIGHBOUR: 'it returns false'. Refute it at one input. -/
def orderLeastWrong : ChangeSpec := { name := "orderLeast", fn := fun _ => fun
  | [d1, d2] => { results := [.lit (.bool false)], args := [d1, d2] }
  | _ => none }
def OrderLeastWrongFalsely : Prop := orderLeastRow.holds Try.pinned (OpenSpec.ofChange orderLeastWrong)

/-- 'inlaylaw18.OrderFree': WHATEVER THE INPUT: true; the input reads as it did. -/
def orderFreeSpec : ChangeSpec := { name := "orderFree", fn := fun _ => fun
  | [d1, d2] => { results := [.lit (.bool true)], args := [d1, d2] }
  | _ => none }
def orderFreeRow : OpenClaim := { program := "ytklbkaefjjonmaa", sum := "88bf4d03829448cd9732c2ea0b24ecdf0009a7c7c43193eca3dccaec31877be3", func := "inlay/inlaylaw18.OrderFree", spec := "orderFree", inPlace := ["slices.overlaps[int]"], unfollowed := true, recurses := true, apart := false }
def OrderFreeSaid : Prop := orderFreeRow.holds Try.pinned (OpenSpec.ofChange orderFreeSpec)

/-- ITS FALSE NEIGHBOUR: 'it returns false'. Refute it at one input. -/
def orderFreeWrong : ChangeSpec := { name := "orderFree", fn := fun _ => fun
  | [d1, d2] => { results := [.lit (.bool false)], args := [d1, d2] }
  | _ => none }
def OrderFreeWrongFalsely : Prop := orderFreeRow.holds Try.pinned (OpenSpec.ofChange orderFreeWrong)

/-- 'inlaylaw18.OrderShrinks': WHATEVER THE INPUT: true; the input reads as it did. -/
def orderShrinksSpec : ChangeSpec := { name := "orderShrinks", fn := fun _ => fun
  | [d1, d2] => { results := [.lit (.bool true)], args := [d1, d2] }
  | _ => none }
def orderShrinksRow : OpenClaim := { program := "ytklbkaefjjonmaa", sum := "88bf4d03829448cd9732c2ea0b24ecdf0009a7c7c43193eca3dccaec31877be3", func := "inlay/inlaylaw18.OrderShrinks", spec := "orderShrinks", inPlace := ["slices.overlaps[int]"], unfollowed := true, recurses := true, apart := false }
def OrderShrinksSaid : Prop := orderShrinksRow.holds Try.pinned (OpenSpec.ofChange orderShrinksSpec)

/-- ITS FALSE NEIGHBOUR: 'it returns false'. Refute it at one input. -/
def orderShrinksWrong : ChangeSpec := { name := "orderShrinks", fn := fun _ => fun
  | [d1, d2] => { results := [.lit (.bool false)], args := [d1, d2] }
  | _ => none }
def OrderShrinksWrongFalsely : Prop := orderShrinksRow.holds Try.pinned (OpenSpec.ofChange orderShrinksWrong)

/-- 'inlaylaw18.OrderRefuses': WHATEVER THE INPUT: true; the input reads as it did. -/
def orderRefusesSpec : ChangeSpec := { name := "orderRefuses", fn := fun _ => fun
  | [d1, d2, d3] => { results := [.lit (.bool true)], args := [d1, d2, d3] }
  | _ => none }
def orderRefusesRow : OpenClaim := { program := "ytklbkaefjjonmaa", sum := "88bf4d03829448cd9732c2ea0b24ecdf0009a7c7c43193eca3dccaec31877be3", func := "inlay/inlaylaw18.OrderRefuses", spec := "orderRefuses", inPlace := ["slices.overlaps[int]"], unfollowed := true, recurses := true, apart := false }
def OrderRefusesSaid : Prop := orderRefusesRow.holds Try.pinned (OpenSpec.ofChange orderRefusesSpec)

/-- ITS FALSE NEIGHBOUR: 'it returns false'. Refute it at one input. -/
def orderRefusesWrong : ChangeSpec := { name := "orderRefuses", fn := fun _ => fun
  | [d1, d2, d3] => { results := [.lit (.bool false)], args := [d1, d2, d3] }
  | _ => none }
def OrderRefusesWrongFalsely : Prop := orderRefusesRow.holds Try.pinned (OpenSpec.ofChange orderRefusesWrong)

/- THE SECOND FORM. 'bulk': how many values and letters a reading holds, each counted each time it is reached (what is shared counts as often as it is met; a slice's spare places count too). A statement '..UptoSaid' is the law's where the arguments, and the package variables that the reading takes, are together of bulk at most 1048576: NARROWER than '..Said'. Prove '..Said' where nothing that the law and all that it calls make is longer than what came in: it says more and counts as full. Else prove '..UptoSaid'. A law counts once. -/
mutual
def uptoBulk {H : Type} : DataW H → Nat
  | .lit (.string bytes) => bytes.length + 1
  | .lit _ => 1
  | .nil => 1
  | .ptr d => uptoBulk d + 1
  | .slice elems spare => uptoBulkAll elems + uptoBulkAll spare + 1
  | .agg parts => uptoBulkAll parts + 1
  | .iface _ d => uptoBulk d + 1
  | .map entries => uptoBulkEntries entries + 1
  | .held _ => 1
def uptoBulkAll {H : Type} : List (DataW H) → Nat
  | [] => 0
  | d :: r => uptoBulk d + uptoBulkAll r
def uptoBulkEntries {H : Type} : List (Lit × DataW H) → Nat
  | [] => 0
  | x :: r => uptoBulkEntry x + uptoBulkEntries r
def uptoBulkEntry {H : Type} : Lit × DataW H → Nat
  | (.string bytes, d) => bytes.length + uptoBulk d + 1
  | (_, d) => uptoBulk d + 1
 end
def uptoSmall : (H : Type) → List (DataW H) → Bool := fun _ ds => decide (uptoBulkAll ds ≤ 1048576)
def OpenSpec.upto (s : _root_.Go.ChangeSpec) : _root_.Go.OpenSpec := { _root_.Go.OpenSpec.ofChange s with cond := some uptoSmall }

/-- 'inlaylaw18.OrderMatchesReference', WHERE WHAT IT READS IS OF BULK AT MOST 1048576: true; the input reads as it did. -/
def orderMatchesReferenceUptoRow : OpenClaim := { program := "ytklbkaefjjonmaa", sum := "88bf4d03829448cd9732c2ea0b24ecdf0009a7c7c43193eca3dccaec31877be3", func := "inlay/inlaylaw18.OrderMatchesReference", spec := "orderMatchesReference", inPlace := ["slices.overlaps[int]"], unfollowed := true, recurses := true, apart := false, narrowed := true }
def OrderMatchesReferenceUptoSaid : Prop := orderMatchesReferenceUptoRow.holds Try.pinned (OpenSpec.upto orderMatchesReferenceSpec)

/-- 'inlaylaw18.OrderReads', WHERE WHAT IT READS IS OF BULK AT MOST 1048576: true; the input reads as it did. -/
def orderReadsUptoRow : OpenClaim := { program := "ytklbkaefjjonmaa", sum := "88bf4d03829448cd9732c2ea0b24ecdf0009a7c7c43193eca3dccaec31877be3", func := "inlay/inlaylaw18.OrderReads", spec := "orderReads", inPlace := ["slices.overlaps[int]"], unfollowed := true, recurses := true, apart := false, narrowed := true }
def OrderReadsUptoSaid : Prop := orderReadsUptoRow.holds Try.pinned (OpenSpec.upto orderReadsSpec)

/-- 'inlaylaw18.OrderRight', WHERE WHAT IT READS IS OF BULK AT MOST 1048576: true; the input reads as it did. -/
def orderRightUptoRow : OpenClaim := { program := "ytklbkaefjjonmaa", sum := "88bf4d03829448cd9732c2ea0b24ecdf0009a7c7c43193eca3dccaec31877be3", func := "inlay/inlaylaw18.OrderRight", spec := "orderRight", inPlace := ["slices.overlaps[int]"], unfollowed := true, recurses := true, apart := false, narrowed := true }
def OrderRightUptoSaid : Prop := orderRightUptoRow.holds Try.pinned (OpenSpec.upto orderRightSpec)

/-- 'inlaylaw18.OrderLeast', WHERE WHAT IT READS IS OF BULK AT MOST 1048576: true; the input reads as it did. -/
def orderLeastUptoRow : OpenClaim := { program := "ytklbkaefjjonmaa", sum := "88bf4d03829448cd9732c2ea0b24ecdf0009a7c7c43193eca3dccaec31877be3", func := "inlay/inlaylaw18.OrderLeast", spec := "orderLeast", inPlace := ["slices.overlaps[int]"], unfollowed := true, recurses := true, apart := false, narrowed := true }
def OrderLeastUptoSaid : Prop := orderLeastUptoRow.holds Try.pinned (OpenSpec.upto orderLeastSpec)

/-- 'inlaylaw18.OrderFree', WHERE WHAT IT READS IS OF BULK AT MOST 1048576: true; the input reads as it did. -/
def orderFreeUptoRow : OpenClaim := { program := "ytklbkaefjjonmaa", sum := "88bf4d03829448cd9732c2ea0b24ecdf0009a7c7c43193eca3dccaec31877be3", func := "inlay/inlaylaw18.OrderFree", spec := "orderFree", inPlace := ["slices.overlaps[int]"], unfollowed := true, recurses := true, apart := false, narrowed := true }
def OrderFreeUptoSaid : Prop := orderFreeUptoRow.holds Try.pinned (OpenSpec.upto orderFreeSpec)

/-- 'inlaylaw18.OrderShrinks', WHERE WHAT IT READS IS OF BULK AT MOST 1048576: true; the input reads as it did. -/
def orderShrinksUptoRow : OpenClaim := { program := "ytklbkaefjjonmaa", sum := "88bf4d03829448cd9732c2ea0b24ecdf0009a7c7c43193eca3dccaec31877be3", func := "inlay/inlaylaw18.OrderShrinks", spec := "orderShrinks", inPlace := ["slices.overlaps[int]"], unfollowed := true, recurses := true, apart := false, narrowed := true }
def OrderShrinksUptoSaid : Prop := orderShrinksUptoRow.holds Try.pinned (OpenSpec.upto orderShrinksSpec)

/-- 'inlaylaw18.OrderRefuses', WHERE WHAT IT READS IS OF BULK AT MOST 1048576: true; the input reads as it did. -/
def orderRefusesUptoRow : OpenClaim := { program := "ytklbkaefjjonmaa", sum := "88bf4d03829448cd9732c2ea0b24ecdf0009a7c7c43193eca3dccaec31877be3", func := "inlay/inlaylaw18.OrderRefuses", spec := "orderRefuses", inPlace := ["slices.overlaps[int]"], unfollowed := true, recurses := true, apart := false, narrowed := true }
def OrderRefusesUptoSaid : Prop := orderRefusesUptoRow.holds Try.pinned (OpenSpec.upto orderRefusesSpec)

end Rows
end Go.Proofs.Ytklbkaefjjonmaa
