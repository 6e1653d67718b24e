/-
  No cell of these rows narrows 'for every input' (looked for: loops, veiled, ifaces, maps, wideKeys, modest, calm, conditions, laid).
  DERIVED. THE GIVEN ROWS OF THIS SEAT. 5 by the template 'for every input the law returns true; each argument reads behind the call as it read before'; 0 by the template 'total and deterministic' (their statements: YtbkmahjhhncfcaaGreatTotals.lean).
  GIVEN WITH THE SEED: the statements are not yours to turn. If you find one false, say at which input.
  Laid BY PROGRAM, IN A SANDBOX (cutbox-rows.mjs): the forced cells as the released guide's own fill.sh prints them over the translation 55ae6410cc2c0cd6… (all of the seat's roots in one cut). By AI agents, Wed Nov 11 2026. No macro, syntax, notation, axiom, sorry.
-/
import Derived.Test.YtbkmahjhhncfcaaGreatChecked
import GoSem.Claim
import GoSem.ClaimJoined
import GoSem.ClaimMapViews
import Derived.JoinedTies
import Derived.KernelRfl
namespace Go.Proofs.YtbkmahjhhncfcaaGreat
/- THE CELL 'sum', in the pinned program and in every row, IS THE sha256 OF THE DUMP (.gsa) THAT YtbkmahjhhncfcaaGreatProg.lean LOADS. Nothing in Lean hashes anything: it is a label: what it is worth is what the hold of that sum in a sandbox is worth. -/
noncomputable def Tryz.pinned : Pinned := { name := "ytbkmahjhhncfcaagreat", sum := "55ae6410cc2c0cd69d7e81853a8b098c286d331785b49b177aced2eabed7777b", checked := Tryz.checked }
namespace Rows
def none {H : Type} : Left H := { results := [], args := [] }

/-- 'inlaylaw07.MatchMatchesReference': WHATEVER THE INPUT: true; the input reads as it did. -/
def matchMatchesReferenceSpec : ChangeSpec := { name := "matchMatchesReference", fn := fun _ => fun
  | [d1, d2, d3] => { results := [.lit (.bool true)], args := [d1, d2, d3] }
  | _ => none }
def matchMatchesReferenceRow : OpenClaim := { program := "ytbkmahjhhncfcaagreat", sum := "55ae6410cc2c0cd69d7e81853a8b098c286d331785b49b177aced2eabed7777b", func := "inlay/inlaylaw07.MatchMatchesReference", spec := "matchMatchesReference", unfollowed := true, recurses := true, apart := false }
def MatchMatchesReferenceSaid : Prop := matchMatchesReferenceRow.holds Tryz.pinned (OpenSpec.ofChange matchMatchesReferenceSpec)

/-- ITS FALSE NEIGHBOUR: 'it returns false'. Refute it at one input. -/
def matchMatchesReferenceWrong : ChangeSpec := { name := "matchMatchesReference", fn := fun _ => fun
  | [d1, d2, d3] => { results := [.lit (.bool false)], args := [d1, d2, d3] }
  | _ => none }
def MatchMatchesReferenceWrongFalsely : Prop := matchMatchesReferenceRow.holds Tryz.pinned (OpenSpec.ofChange matchMatchesReferenceWrong)

/-- 'inlaylaw07.MatchCheapest': WHATEVER THE INPUT: true; the input reads as it did. -/
def matchCheapestSpec : ChangeSpec := { name := "matchCheapest", fn := fun _ => fun
  | [d1, d2] => { results := [.lit (.bool true)], args := [d1, d2] }
  | _ => none }
def matchCheapestRow : OpenClaim := { program := "ytbkmahjhhncfcaagreat", sum := "55ae6410cc2c0cd69d7e81853a8b098c286d331785b49b177aced2eabed7777b", func := "inlay/inlaylaw07.MatchCheapest", spec := "matchCheapest", unfollowed := true, recurses := true, apart := false }
def MatchCheapestSaid : Prop := matchCheapestRow.holds Tryz.pinned (OpenSpec.ofChange matchCheapestSpec)

/-- ITS FALSE NEIGHBOUR: 'it returns false'. Refute it at one input. -/
def matchCheapestWrong : ChangeSpec := { name := "matchCheapest", fn := fun _ => fun
  | [d1, d2] => { results := [.lit (.bool false)], args := [d1, d2] }
  | _ => none }
def MatchCheapestWrongFalsely : Prop := matchCheapestRow.holds Tryz.pinned (OpenSpec.ofChange matchCheapestWrong)

/-- 'inlaylaw07.MatchCode': WHATEVER THE INPUT: true; the input reads as it did. -/
def matchCodeSpec : ChangeSpec := { name := "matchCode", fn := fun _ => fun
  | [d] => { results := [.lit (.bool true)], args := [d] }
  | _ => none }
def matchCodeRow : OpenClaim := { program := "ytbkmahjhhncfcaagreat", sum := "55ae6410cc2c0cd69d7e81853a8b098c286d331785b49b177aced2eabed7777b", func := "inlay/inlaylaw07.MatchCode", spec := "matchCode", unfollowed := true, recurses := true, apart := false }
def MatchCodeSaid : Prop := matchCodeRow.holds Tryz.pinned (OpenSpec.ofChange matchCodeSpec)

/-- ITS FALSE NEIGHBOUR: 'it returns false'. Refute it at one input. -/
def matchCodeWrong : ChangeSpec := { name := "matchCode", fn := fun _ => fun
  | [d] => { results := [.lit (.bool false)], args := [d] }
  | _ => none }
def MatchCodeWrongFalsely : Prop := matchCodeRow.holds Tryz.pinned (OpenSpec.ofChange matchCodeWrong)

/-- 'inlaylaw07.MatchBest': WHATEVER THE INPUT: true; the input reads as it did. -/
def matchBestSpec : ChangeSpec := { name := "matchBest", fn := fun _ => fun
  | [d1, d2, d3] => { results := [.lit (.bool true)], args := [d1, d2, d3] }
  | _ => none }
def matchBestRow : OpenClaim := { program := "ytbkmahjhhncfcaagreat", sum := "55ae6410cc2c0cd69d7e81853a8b098c286d331785b49b177aced2eabed7777b", func := "inlay/inlaylaw07.MatchBest", spec := "matchBest", unfollowed := true, recurses := true, apart := false }
def MatchBestSaid : Prop := matchBestRow.holds Tryz.pinned (OpenSpec.ofChange matchBestSpec)

/-- ITS FALSE NEIGHBOUR: 'it returns false'. Refute it at one input. -/
def matchBestWrong : ChangeSpec := { name := "matchBest", fn := fun _ => fun
  | [d1, d2, d3] => { results := [.lit (.bool false)], args := [d1, d2, d3] }
  | _ => none }
def MatchBestWrongFalsely : Prop := matchBestRow.holds Tryz.pinned (OpenSpec.ofChange matchBestWrong)

/-- 'inlaylaw07.MatchMoves': WHATEVER THE INPUT: true; the input reads as it did. -/
def matchMovesSpec : ChangeSpec := { name := "matchMoves", fn := fun _ => fun
  | [d1, d2, d3] => { results := [.lit (.bool true)], args := [d1, d2, d3] }
  | _ => none }
def matchMovesRow : OpenClaim := { program := "ytbkmahjhhncfcaagreat", sum := "55ae6410cc2c0cd69d7e81853a8b098c286d331785b49b177aced2eabed7777b", func := "inlay/inlaylaw07.MatchMoves", spec := "matchMoves", inPlace := ["slices.overlaps[uint32]", "slices.overlaps[bool]"], unfollowed := true, recurses := true, apart := false }
def MatchMovesSaid : Prop := matchMovesRow.holds Tryz.pinned (OpenSpec.ofChange matchMovesSpec)

/-- ITS FALSE NEIGHBOUR: 'it returns false'. Refute it at one input. -/
def matchMovesWrong : ChangeSpec := { name := "matchMoves", fn := fun _ => fun
  | [d1, d2, d3] => { results := [.lit (.bool false)], args := [d1, d2, d3] }
  | _ => none }
def MatchMovesWrongFalsely : Prop := matchMovesRow.holds Tryz.pinned (OpenSpec.ofChange matchMovesWrong)

/- THE SECOND FORM. 'bulk': how many values and letters a reading holds, each counted each time it is reached (what is shared counts as often as it is met; a slice's spare places count too). A statement '..UptoSaid' is the law's where the arguments, and the package variables that the reading takes, are together of bulk at most 1048576: NARROWER than '..Said'. Prove '..Said' where nothing that the law and all that it calls make is longer than what came in: it says more and counts as full. Else prove '..UptoSaid'. A law counts once. -/
mutual
def uptoBulk {H : Type} : DataW H → Nat
  | .lit (.string bytes) => bytes.length + 1
  | .lit _ => 1
  | .nil => 1
  | .ptr d => uptoBulk d + 1
  | .slice elems spare => uptoBulkAll elems + uptoBulkAll spare + 1
  | .agg parts => uptoBulkAll parts + 1
  | .iface _ d => uptoBulk d + 1
  | .map entries => uptoBulkEntries entries + 1
  | .held _ => 1
def uptoBulkAll {H : Type} : List (DataW H) → Nat
  | [] => 0
  | d :: r => uptoBulk d + uptoBulkAll r
def uptoBulkEntries {H : Type} : List (Lit × DataW H) → Nat
  | [] => 0
  | x :: r => uptoBulkEntry x + uptoBulkEntries r
def uptoBulkEntry {H : Type} : Lit × DataW H → Nat
  | (.string bytes, d) => bytes.length + uptoBulk d + 1
  | (_, d) => uptoBulk d + 1
 end
def uptoSmall : (H : Type) → List (DataW H) → Bool := fun _ ds => decide (uptoBulkAll ds ≤ 1048576)
def OpenSpec.upto (s : _root_.Go.ChangeSpec) : _root_.Go.OpenSpec := { _root_.Go.OpenSpec.ofChange s with cond := some uptoSmall }

/-- 'inlaylaw07.MatchMatchesReference', WHERE WHAT IT READS IS OF BULK AT MOST 1048576: true; the input reads as it did. -/
def matchMatchesReferenceUptoRow : OpenClaim := { program := "ytbkmahjhhncfcaagreat", sum := "55ae6410cc2c0cd69d7e81853a8b098c286d331785b49b177aced2eabed7777b", func := "inlay/inlaylaw07.MatchMatchesReference", spec := "matchMatchesReference", unfollowed := true, recurses := true, apart := false, narrowed := true }
def MatchMatchesReferenceUptoSaid : Prop := matchMatchesReferenceUptoRow.holds Tryz.pinned (OpenSpec.upto matchMatchesReferenceSpec)

/-- 'inlaylaw07.MatchCheapest', WHERE WHAT IT READS IS OF BULK AT MOST 1048576: true; the input reads as it did. -/
def matchCheapestUptoRow : OpenClaim := { program := "ytbkmahjhhncfcaagreat", sum := "55ae6410cc2c0cd69d7e81853a8b098c286d331785b49b177aced2eabed7777b", func := "inlay/inlaylaw07.MatchCheapest", spec := "matchCheapest", unfollowed := true, recurses := true, apart := false, narrowed := true }
def MatchCheapestUptoSaid : Prop := matchCheapestUptoRow.holds Tryz.pinned (OpenSpec.upto matchCheapestSpec)

/-- 'inlaylaw07.MatchCode', WHERE WHAT IT READS IS OF BULK AT MOST 1048576: true; the input reads as it did. -/
def matchCodeUptoRow : OpenClaim := { program := "ytbkmahjhhncfcaagreat", sum := "55ae6410cc2c0cd69d7e81853a8b098c286d331785b49b177aced2eabed7777b", func := "inlay/inlaylaw07.MatchCode", spec := "matchCode", unfollowed := true, recurses := true, apart := false, narrowed := true }
def MatchCodeUptoSaid : Prop := matchCodeUptoRow.holds Tryz.pinned (OpenSpec.upto matchCodeSpec)

/-- 'inlaylaw07.MatchBest', WHERE WHAT IT READS IS OF BULK AT MOST 1048576: true; the input reads as it did. -/
def matchBestUptoRow : OpenClaim := { program := "ytbkmahjhhncfcaagreat", sum := "55ae6410cc2c0cd69d7e81853a8b098c286d331785b49b177aced2eabed7777b", func := "inlay/inlaylaw07.MatchBest", spec := "matchBest", unfollowed := true, recurses := true, apart := false, narrowed := true }
def MatchBestUptoSaid : Prop := matchBestUptoRow.holds Tryz.pinned (OpenSpec.upto matchBestSpec)

/-- 'inlaylaw07.MatchMoves', WHERE WHAT IT READS IS OF BULK AT MOST 1048576: true; the input reads as it did. -/
def matchMovesUptoRow : OpenClaim := { program := "ytbkmahjhhncfcaagreat", sum := "55ae6410cc2c0cd69d7e81853a8b098c286d331785b49b177aced2eabed7777b", func := "inlay/inlaylaw07.MatchMoves", spec := "matchMoves", inPlace := ["slices.overlaps[uint32]", "slices.overlaps[bool]"], unfollowed := true, recurses := true, apart := false, narrowed := true }
def MatchMovesUptoSaid : Prop := matchMovesUptoRow.holds Tryz.pinned (OpenSpec.upto matchMovesSpec)

end Rows
end Go.Proofs.YtbkmahjhhncfcaaGreat
