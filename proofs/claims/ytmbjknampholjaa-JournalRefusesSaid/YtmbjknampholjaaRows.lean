/-
  No cell of these rows narrows 'for every input' (looked for: loops, veiled, ifaces, maps, wideKeys, modest, calm, conditions, laid).
  DERIVED. THE GIVEN ROWS OF THIS SEAT. 7 by the template 'for every input the law returns true; each argument reads behind the call as it read before'; 0 by the template 'total and deterministic' (their statements: YtmbjknampholjaaTotals.lean).
  GIVEN WITH THE SEED: the statements are not yours to turn. If you find one false, say at which input.
  Laid BY PROGRAM, IN A SANDBOX (cutbox-rows.mjs): the forced cells as the released guide's own fill.sh prints them over the translation f6bb38a33b2746a2… (all of the seat's roots in one cut). By AI agents, Wed Nov 11 2026. No macro, syntax, notation, axiom, sorry.
-/
import Derived.Test.YtmbjknampholjaaChecked
import GoSem.Claim
import GoSem.ClaimJoined
import GoSem.ClaimMapViews
import Derived.JoinedTies
import Derived.KernelRfl
namespace Go.Proofs.Ytmbjknampholjaa
/- THE CELL 'sum', in the pinned program and in every row, IS THE sha256 OF THE DUMP (.gsa) THAT YtmbjknampholjaaProg.lean LOADS. Nothing in Lean hashes anything: it is a label: what it is worth is what the hold of that sum in a sandbox is worth. -/
noncomputable def Try.pinned : Pinned := { name := "ytmbjknampholjaa", sum := "f6bb38a33b2746a27ab859d4863550b574e56fe8cd6ce27c95a9f348cf2f3ccd", checked := Try.checked }
namespace Rows
def none {H : Type} : Left H := { results := [], args := [] }

/-- 'inlaylaw20.JournalMatchesReference': WHATEVER THE INPUT: true; the input reads as it did. -/
def journalMatchesReferenceSpec : ChangeSpec := { name := "journalMatchesReference", fn := fun _ => fun
  | [d1, d2, d3] => { results := [.lit (.bool true)], args := [d1, d2, d3] }
  | _ => none }
def journalMatchesReferenceRow : OpenClaim := { program := "ytmbjknampholjaa", sum := "f6bb38a33b2746a27ab859d4863550b574e56fe8cd6ce27c95a9f348cf2f3ccd", func := "inlay/inlaylaw20.JournalMatchesReference", spec := "journalMatchesReference", inPlace := ["internal/bytealg.MakeNoZero", "internal/bytealg.Count", "internal/bytealg.IndexByte", "internal/bytealg.Index"], unfollowed := true, recurses := true, named := ["internal/bytealg.MaxLen"], apart := false }
def JournalMatchesReferenceSaid : Prop := journalMatchesReferenceRow.holds Try.pinned (OpenSpec.ofChange journalMatchesReferenceSpec)

/-- ITS FALSE NEIGHBOUR: 'it returns false'. Refute it at one input. -/
def journalMatchesReferenceWrong : ChangeSpec := { name := "journalMatchesReference", fn := fun _ => fun
  | [d1, d2, d3] => { results := [.lit (.bool false)], args := [d1, d2, d3] }
  | _ => none }
def JournalMatchesReferenceWrongFalsely : Prop := journalMatchesReferenceRow.holds Try.pinned (OpenSpec.ofChange journalMatchesReferenceWrong)

/-- 'inlaylaw20.JournalSlots': WHATEVER THE INPUT: true; the input reads as it did. -/
def journalSlotsSpec : ChangeSpec := { name := "journalSlots", fn := fun _ => fun
  | [d1, d2, d3] => { results := [.lit (.bool true)], args := [d1, d2, d3] }
  | _ => none }
def journalSlotsRow : OpenClaim := { program := "ytmbjknampholjaa", sum := "f6bb38a33b2746a27ab859d4863550b574e56fe8cd6ce27c95a9f348cf2f3ccd", func := "inlay/inlaylaw20.JournalSlots", spec := "journalSlots", inPlace := ["internal/bytealg.MakeNoZero", "internal/bytealg.Count", "internal/bytealg.IndexByte", "internal/bytealg.Index"], unfollowed := true, recurses := true, named := ["internal/bytealg.MaxLen"], apart := false }
def JournalSlotsSaid : Prop := journalSlotsRow.holds Try.pinned (OpenSpec.ofChange journalSlotsSpec)

/-- ITS FALSE NEIGHBOUR: 'it returns false'. Refute it at one input. -/
def journalSlotsWrong : ChangeSpec := { name := "journalSlots", fn := fun _ => fun
  | [d1, d2, d3] => { results := [.lit (.bool false)], args := [d1, d2, d3] }
  | _ => none }
def JournalSlotsWrongFalsely : Prop := journalSlotsRow.holds Try.pinned (OpenSpec.ofChange journalSlotsWrong)

/-- 'inlaylaw20.JournalSteps': WHATEVER THE INPUT: true; the input reads as it did. -/
def journalStepsSpec : ChangeSpec := { name := "journalSteps", fn := fun _ => fun
  | [d1, d2, d3] => { results := [.lit (.bool true)], args := [d1, d2, d3] }
  | _ => none }
def journalStepsRow : OpenClaim := { program := "ytmbjknampholjaa", sum := "f6bb38a33b2746a27ab859d4863550b574e56fe8cd6ce27c95a9f348cf2f3ccd", func := "inlay/inlaylaw20.JournalSteps", spec := "journalSteps", inPlace := ["internal/bytealg.MakeNoZero", "internal/bytealg.Count", "internal/bytealg.IndexByte", "internal/bytealg.Index"], unfollowed := true, recurses := true, named := ["internal/bytealg.MaxLen"], apart := false }
def JournalStepsSaid : Prop := journalStepsRow.holds Try.pinned (OpenSpec.ofChange journalStepsSpec)

/-- ITS FALSE NEIGHBOUR: 'it returns false'. Refute it at one input. -/
def journalStepsWrong : ChangeSpec := { name := "journalSteps", fn := fun _ => fun
  | [d1, d2, d3] => { results := [.lit (.bool false)], args := [d1, d2, d3] }
  | _ => none }
def JournalStepsWrongFalsely : Prop := journalStepsRow.holds Try.pinned (OpenSpec.ofChange journalStepsWrong)

/-- 'inlaylaw20.JournalFinishes': WHATEVER THE INPUT: true; the input reads as it did. -/
def journalFinishesSpec : ChangeSpec := { name := "journalFinishes", fn := fun _ => fun
  | [d1, d2, d3] => { results := [.lit (.bool true)], args := [d1, d2, d3] }
  | _ => none }
def journalFinishesRow : OpenClaim := { program := "ytmbjknampholjaa", sum := "f6bb38a33b2746a27ab859d4863550b574e56fe8cd6ce27c95a9f348cf2f3ccd", func := "inlay/inlaylaw20.JournalFinishes", spec := "journalFinishes", inPlace := ["internal/bytealg.MakeNoZero", "internal/bytealg.Count", "internal/bytealg.IndexByte", "internal/bytealg.Index"], unfollowed := true, recurses := true, named := ["internal/bytealg.MaxLen"], apart := false }
def JournalFinishesSaid : Prop := journalFinishesRow.holds Try.pinned (OpenSpec.ofChange journalFinishesSpec)

/-- ITS FALSE NEIGHBOUR: 'it returns false'. Refute it at one input. -/
def journalFinishesWrong : ChangeSpec := { name := "journalFinishes", fn := fun _ => fun
  | [d1, d2, d3] => { results := [.lit (.bool false)], args := [d1, d2, d3] }
  | _ => none }
def JournalFinishesWrongFalsely : Prop := journalFinishesRow.holds Try.pinned (OpenSpec.ofChange journalFinishesWrong)

/-- 'inlaylaw20.JournalRefuses': WHATEVER THE INPUT: true; the input reads as it did. -/
def journalRefusesSpec : ChangeSpec := { name := "journalRefuses", fn := fun _ => fun
  | [d1, d2, d3] => { results := [.lit (.bool true)], args := [d1, d2, d3] }
  | _ => none }
def journalRefusesRow : OpenClaim := { program := "ytmbjknampholjaa", sum := "f6bb38a33b2746a27ab859d4863550b574e56fe8cd6ce27c95a9f348cf2f3ccd", func := "inlay/inlaylaw20.JournalRefuses", spec := "journalRefuses", inPlace := ["internal/bytealg.MakeNoZero", "internal/bytealg.Count", "internal/bytealg.IndexByte", "internal/bytealg.Index"], unfollowed := true, recurses := true, named := ["internal/bytealg.MaxLen"], apart := false }
def JournalRefusesSaid : Prop := journalRefusesRow.holds Try.pinned (OpenSpec.ofChange journalRefusesSpec)

/-- ITS FALSE NEIGHBOUR: 'it returns false'. Refute it at one input. -/
def journalRefusesWrong : ChangeSpec := { name := "journalRefuses", fn := fun _ => fun
  | [d1, d2, d3] => { results := [.lit (.bool false)], args := [d1, d2, d3] }
  | _ => none }
def JournalRefusesWrongFalsely : Prop := journalRefusesRow.holds Try.pinned (OpenSpec.ofChange journalRefusesWrong)

/-- 'inlaylaw20.JournalOldOrNew': WHATEVER THE INPUT: true; the input reads as it did. -/
def journalOldOrNewSpec : ChangeSpec := { name := "journalOldOrNew", fn := fun _ => fun
  | [d1, d2, d3] => { results := [.lit (.bool true)], args := [d1, d2, d3] }
  | _ => none }
def journalOldOrNewRow : OpenClaim := { program := "ytmbjknampholjaa", sum := "f6bb38a33b2746a27ab859d4863550b574e56fe8cd6ce27c95a9f348cf2f3ccd", func := "inlay/inlaylaw20.JournalOldOrNew", spec := "journalOldOrNew", inPlace := ["internal/bytealg.MakeNoZero", "internal/bytealg.Count", "internal/bytealg.IndexByte", "internal/bytealg.Index"], unfollowed := true, recurses := true, named := ["internal/bytealg.MaxLen"], apart := false }
def JournalOldOrNewSaid : Prop := journalOldOrNewRow.holds Try.pinned (OpenSpec.ofChange journalOldOrNewSpec)

/-- ITS FALSE NEIGHBOUR: 'it returns false'. Refute it at one input. -/
def journalOldOrNewWrong : ChangeSpec := { name := "journalOldOrNew", fn := fun _ => fun
  | [d1, d2, d3] => { results := [.lit (.bool false)], args := [d1, d2, d3] }
  | _ => none }
def JournalOldOrNewWrongFalsely : Prop := journalOldOrNewRow.holds Try.pinned (OpenSpec.ofChange journalOldOrNewWrong)

/-- 'inlaylaw20.JournalScripts': WHATEVER THE INPUT: true; the input reads as it did. -/
def journalScriptsSpec : ChangeSpec := { name := "journalScripts", fn := fun _ => fun
  | [d1, d2] => { results := [.lit (.bool true)], args := [d1, d2] }
  | _ => none }
def journalScriptsRow : OpenClaim := { program := "ytmbjknampholjaa", sum := "f6bb38a33b2746a27ab859d4863550b574e56fe8cd6ce27c95a9f348cf2f3ccd", func := "inlay/inlaylaw20.JournalScripts", spec := "journalScripts", inPlace := ["internal/bytealg.MakeNoZero", "internal/bytealg.Count", "internal/bytealg.IndexByte", "internal/bytealg.Index"], unfollowed := true, recurses := true, named := ["internal/bytealg.MaxLen"], apart := false }
def JournalScriptsSaid : Prop := journalScriptsRow.holds Try.pinned (OpenSpec.ofChange journalScriptsSpec)

/-- ITS FALSE NEIGHBOUR: 'it returns false'. Refute it at one input. -/
def journalScriptsWrong : ChangeSpec := { name := "journalScripts", fn := fun _ => fun
  | [d1, d2] => { results := [.lit (.bool false)], args := [d1, d2] }
  | _ => none }
def JournalScriptsWrongFalsely : Prop := journalScriptsRow.holds Try.pinned (OpenSpec.ofChange journalScriptsWrong)

/- THE SECOND FORM. 'bulk': how many values and letters a reading holds, each counted each time it is reached (what is shared counts as often as it is met; a slice's spare places count too). A statement '..UptoSaid' is the law's where the arguments, and the package variables that the reading takes, are together of bulk at most 1048576: NARROWER than '..Said'. Prove '..Said' where nothing that the law and all that it calls make is longer than what came in: it says more and counts as full. Else prove '..UptoSaid'. A law counts once. -/
mutual
def uptoBulk {H : Type} : DataW H → Nat
  | .lit (.string bytes) => bytes.length + 1
  | .lit _ => 1
  | .nil => 1
  | .ptr d => uptoBulk d + 1
  | .slice elems spare => uptoBulkAll elems + uptoBulkAll spare + 1
  | .agg parts => uptoBulkAll parts + 1
  | .iface _ d => uptoBulk d + 1
  | .map entries => uptoBulkEntries entries + 1
  | .held _ => 1
def uptoBulkAll {H : Type} : List (DataW H) → Nat
  | [] => 0
  | d :: r => uptoBulk d + uptoBulkAll r
def uptoBulkEntries {H : Type} : List (Lit × DataW H) → Nat
  | [] => 0
  | x :: r => uptoBulkEntry x + uptoBulkEntries r
def uptoBulkEntry {H : Type} : Lit × DataW H → Nat
  | (.string bytes, d) => bytes.length + uptoBulk d + 1
  | (_, d) => uptoBulk d + 1
 end
def uptoSmall : (H : Type) → List (DataW H) → Bool := fun _ ds => decide (uptoBulkAll ds ≤ 1048576)
def OpenSpec.upto (s : _root_.Go.ChangeSpec) : _root_.Go.OpenSpec := { _root_.Go.OpenSpec.ofChange s with cond := some uptoSmall }

/-- 'inlaylaw20.JournalMatchesReference', WHERE WHAT IT READS IS OF BULK AT MOST 1048576: true; the input reads as it did. -/
def journalMatchesReferenceUptoRow : OpenClaim := { program := "ytmbjknampholjaa", sum := "f6bb38a33b2746a27ab859d4863550b574e56fe8cd6ce27c95a9f348cf2f3ccd", func := "inlay/inlaylaw20.JournalMatchesReference", spec := "journalMatchesReference", inPlace := ["internal/bytealg.MakeNoZero", "internal/bytealg.Count", "internal/bytealg.IndexByte", "internal/bytealg.Index"], unfollowed := true, recurses := true, named := ["internal/bytealg.MaxLen"], apart := false, narrowed := true }
def JournalMatchesReferenceUptoSaid : Prop := journalMatchesReferenceUptoRow.holds Try.pinned (OpenSpec.upto journalMatchesReferenceSpec)

/-- 'inlaylaw20.JournalSlots', WHERE WHAT IT READS IS OF BULK AT MOST 1048576: true; the input reads as it did. -/
def journalSlotsUptoRow : OpenClaim := { program := "ytmbjknampholjaa", sum := "f6bb38a33b2746a27ab859d4863550b574e56fe8cd6ce27c95a9f348cf2f3ccd", func := "inlay/inlaylaw20.JournalSlots", spec := "journalSlots", inPlace := ["internal/bytealg.MakeNoZero", "internal/bytealg.Count", "internal/bytealg.IndexByte", "internal/bytealg.Index"], unfollowed := true, recurses := true, named := ["internal/bytealg.MaxLen"], apart := false, narrowed := true }
def JournalSlotsUptoSaid : Prop := journalSlotsUptoRow.holds Try.pinned (OpenSpec.upto journalSlotsSpec)

/-- 'inlaylaw20.JournalSteps', WHERE WHAT IT READS IS OF BULK AT MOST 1048576: true; the input reads as it did. -/
def journalStepsUptoRow : OpenClaim := { program := "ytmbjknampholjaa", sum := "f6bb38a33b2746a27ab859d4863550b574e56fe8cd6ce27c95a9f348cf2f3ccd", func := "inlay/inlaylaw20.JournalSteps", spec := "journalSteps", inPlace := ["internal/bytealg.MakeNoZero", "internal/bytealg.Count", "internal/bytealg.IndexByte", "internal/bytealg.Index"], unfollowed := true, recurses := true, named := ["internal/bytealg.MaxLen"], apart := false, narrowed := true }
def JournalStepsUptoSaid : Prop := journalStepsUptoRow.holds Try.pinned (OpenSpec.upto journalStepsSpec)

/-- 'inlaylaw20.JournalFinishes', WHERE WHAT IT READS IS OF BULK AT MOST 1048576: true; the input reads as it did. -/
def journalFinishesUptoRow : OpenClaim := { program := "ytmbjknampholjaa", sum := "f6bb38a33b2746a27ab859d4863550b574e56fe8cd6ce27c95a9f348cf2f3ccd", func := "inlay/inlaylaw20.JournalFinishes", spec := "journalFinishes", inPlace := ["internal/bytealg.MakeNoZero", "internal/bytealg.Count", "internal/bytealg.IndexByte", "internal/bytealg.Index"], unfollowed := true, recurses := true, named := ["internal/bytealg.MaxLen"], apart := false, narrowed := true }
def JournalFinishesUptoSaid : Prop := journalFinishesUptoRow.holds Try.pinned (OpenSpec.upto journalFinishesSpec)

/-- 'inlaylaw20.JournalRefuses', WHERE WHAT IT READS IS OF BULK AT MOST 1048576: true; the input reads as it did. -/
def journalRefusesUptoRow : OpenClaim := { program := "ytmbjknampholjaa", sum := "f6bb38a33b2746a27ab859d4863550b574e56fe8cd6ce27c95a9f348cf2f3ccd", func := "inlay/inlaylaw20.JournalRefuses", spec := "journalRefuses", inPlace := ["internal/bytealg.MakeNoZero", "internal/bytealg.Count", "internal/bytealg.IndexByte", "internal/bytealg.Index"], unfollowed := true, recurses := true, named := ["internal/bytealg.MaxLen"], apart := false, narrowed := true }
def JournalRefusesUptoSaid : Prop := journalRefusesUptoRow.holds Try.pinned (OpenSpec.upto journalRefusesSpec)

/-- 'inlaylaw20.JournalOldOrNew', WHERE WHAT IT READS IS OF BULK AT MOST 1048576: true; the input reads as it did. -/
def journalOldOrNewUptoRow : OpenClaim := { program := "ytmbjknampholjaa", sum := "f6bb38a33b2746a27ab859d4863550b574e56fe8cd6ce27c95a9f348cf2f3ccd", func := "inlay/inlaylaw20.JournalOldOrNew", spec := "journalOldOrNew", inPlace := ["internal/bytealg.MakeNoZero", "internal/bytealg.Count", "internal/bytealg.IndexByte", "internal/bytealg.Index"], unfollowed := true, recurses := true, named := ["internal/bytealg.MaxLen"], apart := false, narrowed := true }
def JournalOldOrNewUptoSaid : Prop := journalOldOrNewUptoRow.holds Try.pinned (OpenSpec.upto journalOldOrNewSpec)

/-- 'inlaylaw20.JournalScripts', WHERE WHAT IT READS IS OF BULK AT MOST 1048576: true; the input reads as it did. -/
def journalScriptsUptoRow : OpenClaim := { program := "ytmbjknampholjaa", sum := "f6bb38a33b2746a27ab859d4863550b574e56fe8cd6ce27c95a9f348cf2f3ccd", func := "inlay/inlaylaw20.JournalScripts", spec := "journalScripts", inPlace := ["internal/bytealg.MakeNoZero", "internal/bytealg.Count", "internal/bytealg.IndexByte", "internal/bytealg.Index"], unfollowed := true, recurses := true, named := ["internal/bytealg.MaxLen"], apart := false, narrowed := true }
def JournalScriptsUptoSaid : Prop := journalScriptsUptoRow.holds Try.pinned (OpenSpec.upto journalScriptsSpec)

end Rows
end Go.Proofs.Ytmbjknampholjaa
