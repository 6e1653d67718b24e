/-
  No cell of these rows narrows 'for every input' (looked for: loops, veiled, ifaces, maps, wideKeys, modest, calm, conditions, laid).
  DERIVED. THE GIVEN ROWS OF THIS SEAT. 15 by the template 'for every input the law returns true; each argument reads behind the call as it read before'; 0 by the template 'total and deterministic' (their statements: YthfjkdgopkmgoaaTotals.lean).
  GIVEN WITH THE SEED: the statements are not yours to turn. If you find one false, say at which input.
  Laid BY PROGRAM, IN A SANDBOX (cutbox-rows.mjs): the forced cells as the released guide's own fill.sh prints them over the translation 035b70d163f7a682… (all of the seat's roots in one cut). By AI agents, Wed Nov 11 2026. No macro, syntax, notation, axiom, sorry.
-/
import Derived.Test.YthfjkdgopkmgoaaChecked
import GoSem.Claim
import GoSem.ClaimJoined
import GoSem.ClaimMapViews
import Derived.JoinedTies
import Derived.KernelRfl
namespace Go.Proofs.Ythfjkdgopkmgoaa
/- THE CELL 'sum', in the pinned program and in every row, IS THE sha256 OF THE DUMP (.gsa) THAT YthfjkdgopkmgoaaProg.lean LOADS. Nothing in Lean hashes anything: it is a label: what it is worth is what the hold of that sum in a sandbox is worth. -/
noncomputable def Try.pinned : Pinned := { name := "ythfjkdgopkmgoaa", sum := "035b70d163f7a682fcb63fcd97d173699e6a938b1a499be2a2e223427ba6b15f", checked := Try.checked }
namespace Rows
def none {H : Type} : Left H := { results := [], args := [] }

/-- 'inlaylaw21.SavedMatchesReference': WHATEVER THE INPUT: true; the input reads as it did. -/
def savedMatchesReferenceSpec : ChangeSpec := { name := "savedMatchesReference", fn := fun _ => fun
  | [d1, d2, d3] => { results := [.lit (.bool true)], args := [d1, d2, d3] }
  | _ => none }
def savedMatchesReferenceRow : OpenClaim := { program := "ythfjkdgopkmgoaa", sum := "035b70d163f7a682fcb63fcd97d173699e6a938b1a499be2a2e223427ba6b15f", func := "inlay/inlaylaw21.SavedMatchesReference", spec := "savedMatchesReference", unfollowed := true, recurses := true, apart := false }
def SavedMatchesReferenceSaid : Prop := savedMatchesReferenceRow.holds Try.pinned (OpenSpec.ofChange savedMatchesReferenceSpec)

/-- ITS FALSE NEIGHBOUR: 'it returns false'. Refute it at one input. -/
def savedMatchesReferenceWrong : ChangeSpec := { name := "savedMatchesReference", fn := fun _ => fun
  | [d1, d2, d3] => { results := [.lit (.bool false)], args := [d1, d2, d3] }
  | _ => none }
def SavedMatchesReferenceWrongFalsely : Prop := savedMatchesReferenceRow.holds Try.pinned (OpenSpec.ofChange savedMatchesReferenceWrong)

/-- 'inlaylaw21.SavedRestores': WHATEVER THE INPUT: true; the input reads as it did. -/
def savedRestoresSpec : ChangeSpec := { name := "savedRestores", fn := fun _ => fun
  | [d1, d2, d3] => { results := [.lit (.bool true)], args := [d1, d2, d3] }
  | _ => none }
def savedRestoresRow : OpenClaim := { program := "ythfjkdgopkmgoaa", sum := "035b70d163f7a682fcb63fcd97d173699e6a938b1a499be2a2e223427ba6b15f", func := "inlay/inlaylaw21.SavedRestores", spec := "savedRestores", unfollowed := true, recurses := true, apart := false }
def SavedRestoresSaid : Prop := savedRestoresRow.holds Try.pinned (OpenSpec.ofChange savedRestoresSpec)

/-- ITS FALSE NEIGHBOUR: 'it returns false'. Refute it at one input. -/
def savedRestoresWrong : ChangeSpec := { name := "savedRestores", fn := fun _ => fun
  | [d1, d2, d3] => { results := [.lit (.bool false)], args := [d1, d2, d3] }
  | _ => none }
def SavedRestoresWrongFalsely : Prop := savedRestoresRow.holds Try.pinned (OpenSpec.ofChange savedRestoresWrong)

/-- 'inlaylaw21.SavedSizes': WHATEVER THE INPUT: true; the input reads as it did. -/
def savedSizesSpec : ChangeSpec := { name := "savedSizes", fn := fun _ => fun
  | [d1, d2, d3] => { results := [.lit (.bool true)], args := [d1, d2, d3] }
  | _ => none }
def savedSizesRow : OpenClaim := { program := "ythfjkdgopkmgoaa", sum := "035b70d163f7a682fcb63fcd97d173699e6a938b1a499be2a2e223427ba6b15f", func := "inlay/inlaylaw21.SavedSizes", spec := "savedSizes", unfollowed := true, recurses := true, apart := false }
def SavedSizesSaid : Prop := savedSizesRow.holds Try.pinned (OpenSpec.ofChange savedSizesSpec)

/-- ITS FALSE NEIGHBOUR: 'it returns false'. Refute it at one input. -/
def savedSizesWrong : ChangeSpec := { name := "savedSizes", fn := fun _ => fun
  | [d1, d2, d3] => { results := [.lit (.bool false)], args := [d1, d2, d3] }
  | _ => none }
def SavedSizesWrongFalsely : Prop := savedSizesRow.holds Try.pinned (OpenSpec.ofChange savedSizesWrong)

/-- 'inlaylaw21.SavedReadsBack': WHATEVER THE INPUT: true; the input reads as it did. -/
def savedReadsBackSpec : ChangeSpec := { name := "savedReadsBack", fn := fun _ => fun
  | [d1, d2] => { results := [.lit (.bool true)], args := [d1, d2] }
  | _ => none }
def savedReadsBackRow : OpenClaim := { program := "ythfjkdgopkmgoaa", sum := "035b70d163f7a682fcb63fcd97d173699e6a938b1a499be2a2e223427ba6b15f", func := "inlay/inlaylaw21.SavedReadsBack", spec := "savedReadsBack", unfollowed := true, recurses := true, apart := false }
def SavedReadsBackSaid : Prop := savedReadsBackRow.holds Try.pinned (OpenSpec.ofChange savedReadsBackSpec)

/-- ITS FALSE NEIGHBOUR: 'it returns false'. Refute it at one input. -/
def savedReadsBackWrong : ChangeSpec := { name := "savedReadsBack", fn := fun _ => fun
  | [d1, d2] => { results := [.lit (.bool false)], args := [d1, d2] }
  | _ => none }
def SavedReadsBackWrongFalsely : Prop := savedReadsBackRow.holds Try.pinned (OpenSpec.ofChange savedReadsBackWrong)

/-- 'inlaylaw21.SavedChains': WHATEVER THE INPUT: true; the input reads as it did. -/
def savedChainsSpec : ChangeSpec := { name := "savedChains", fn := fun _ => fun
  | [d1, d2, d3] => { results := [.lit (.bool true)], args := [d1, d2, d3] }
  | _ => none }
def savedChainsRow : OpenClaim := { program := "ythfjkdgopkmgoaa", sum := "035b70d163f7a682fcb63fcd97d173699e6a938b1a499be2a2e223427ba6b15f", func := "inlay/inlaylaw21.SavedChains", spec := "savedChains", unfollowed := true, recurses := true, apart := false }
def SavedChainsSaid : Prop := savedChainsRow.holds Try.pinned (OpenSpec.ofChange savedChainsSpec)

/-- ITS FALSE NEIGHBOUR: 'it returns false'. Refute it at one input. -/
def savedChainsWrong : ChangeSpec := { name := "savedChains", fn := fun _ => fun
  | [d1, d2, d3] => { results := [.lit (.bool false)], args := [d1, d2, d3] }
  | _ => none }
def SavedChainsWrongFalsely : Prop := savedChainsRow.holds Try.pinned (OpenSpec.ofChange savedChainsWrong)

/-- 'inlaylaw21.SavedRefuses': WHATEVER THE INPUT: true; the input reads as it did. -/
def savedRefusesSpec : ChangeSpec := { name := "savedRefuses", fn := fun _ => fun
  | [d1, d2, d3] => { results := [.lit (.bool true)], args := [d1, d2, d3] }
  | _ => none }
def savedRefusesRow : OpenClaim := { program := "ythfjkdgopkmgoaa", sum := "035b70d163f7a682fcb63fcd97d173699e6a938b1a499be2a2e223427ba6b15f", func := "inlay/inlaylaw21.SavedRefuses", spec := "savedRefuses", unfollowed := true, recurses := true, apart := false }
def SavedRefusesSaid : Prop := savedRefusesRow.holds Try.pinned (OpenSpec.ofChange savedRefusesSpec)

/-- ITS FALSE NEIGHBOUR: 'it returns false'. Refute it at one input. -/
def savedRefusesWrong : ChangeSpec := { name := "savedRefuses", fn := fun _ => fun
  | [d1, d2, d3] => { results := [.lit (.bool false)], args := [d1, d2, d3] }
  | _ => none }
def SavedRefusesWrongFalsely : Prop := savedRefusesRow.holds Try.pinned (OpenSpec.ofChange savedRefusesWrong)

/-- 'inlaylaw21.SavedLimits': WHATEVER THE INPUT: true; the input reads as it did. -/
def savedLimitsSpec : ChangeSpec := { name := "savedLimits", fn := fun _ => fun
  | [d1, d2] => { results := [.lit (.bool true)], args := [d1, d2] }
  | _ => none }
def savedLimitsRow : OpenClaim := { program := "ythfjkdgopkmgoaa", sum := "035b70d163f7a682fcb63fcd97d173699e6a938b1a499be2a2e223427ba6b15f", func := "inlay/inlaylaw21.SavedLimits", spec := "savedLimits", unfollowed := true, recurses := true, apart := false }
def SavedLimitsSaid : Prop := savedLimitsRow.holds Try.pinned (OpenSpec.ofChange savedLimitsSpec)

/-- ITS FALSE NEIGHBOUR: 'it returns false'. Refute it at one input. -/
def savedLimitsWrong : ChangeSpec := { name := "savedLimits", fn := fun _ => fun
  | [d1, d2] => { results := [.lit (.bool false)], args := [d1, d2] }
  | _ => none }
def SavedLimitsWrongFalsely : Prop := savedLimitsRow.holds Try.pinned (OpenSpec.ofChange savedLimitsWrong)

/-- 'inlaylaw17.FlashMatchesReference': WHATEVER THE INPUT: true; the input reads as it did. -/
def flashMatchesReferenceSpec : ChangeSpec := { name := "flashMatchesReference", fn := fun _ => fun
  | [d1, d2, d3] => { results := [.lit (.bool true)], args := [d1, d2, d3] }
  | _ => none }
def flashMatchesReferenceRow : OpenClaim := { program := "ythfjkdgopkmgoaa", sum := "035b70d163f7a682fcb63fcd97d173699e6a938b1a499be2a2e223427ba6b15f", func := "inlay/inlaylaw17.FlashMatchesReference", spec := "flashMatchesReference", inPlace := ["internal/bytealg.MakeNoZero"], unfollowed := true, recurses := true, apart := false }
def FlashMatchesReferenceSaid : Prop := flashMatchesReferenceRow.holds Try.pinned (OpenSpec.ofChange flashMatchesReferenceSpec)

/-- ITS FALSE NEIGHBOUR: 'it returns false'. Refute it at one input. -/
def flashMatchesReferenceWrong : ChangeSpec := { name := "flashMatchesReference", fn := fun _ => fun
  | [d1, d2, d3] => { results := [.lit (.bool false)], args := [d1, d2, d3] }
  | _ => none }
def FlashMatchesReferenceWrongFalsely : Prop := flashMatchesReferenceRow.holds Try.pinned (OpenSpec.ofChange flashMatchesReferenceWrong)

/-- 'inlaylaw17.FlashValid': WHATEVER THE INPUT: true; the input reads as it did. -/
def flashValidSpec : ChangeSpec := { name := "flashValid", fn := fun _ => fun
  | [d1, d2, d3] => { results := [.lit (.bool true)], args := [d1, d2, d3] }
  | _ => none }
def flashValidRow : OpenClaim := { program := "ythfjkdgopkmgoaa", sum := "035b70d163f7a682fcb63fcd97d173699e6a938b1a499be2a2e223427ba6b15f", func := "inlay/inlaylaw17.FlashValid", spec := "flashValid", inPlace := ["internal/bytealg.MakeNoZero"], unfollowed := true, recurses := true, apart := false }
def FlashValidSaid : Prop := flashValidRow.holds Try.pinned (OpenSpec.ofChange flashValidSpec)

/-- ITS FALSE NEIGHBOUR: 'it returns false'. Refute it at one input. -/
def flashValidWrong : ChangeSpec := { name := "flashValid", fn := fun _ => fun
  | [d1, d2, d3] => { results := [.lit (.bool false)], args := [d1, d2, d3] }
  | _ => none }
def FlashValidWrongFalsely : Prop := flashValidRow.holds Try.pinned (OpenSpec.ofChange flashValidWrong)

/-- 'inlaylaw17.FlashPrograms': WHATEVER THE INPUT: true; the input reads as it did. -/
def flashProgramsSpec : ChangeSpec := { name := "flashPrograms", fn := fun _ => fun
  | [d1, d2, d3] => { results := [.lit (.bool true)], args := [d1, d2, d3] }
  | _ => none }
def flashProgramsRow : OpenClaim := { program := "ythfjkdgopkmgoaa", sum := "035b70d163f7a682fcb63fcd97d173699e6a938b1a499be2a2e223427ba6b15f", func := "inlay/inlaylaw17.FlashPrograms", spec := "flashPrograms", inPlace := ["internal/bytealg.MakeNoZero"], unfollowed := true, recurses := true, apart := false }
def FlashProgramsSaid : Prop := flashProgramsRow.holds Try.pinned (OpenSpec.ofChange flashProgramsSpec)

/-- ITS FALSE NEIGHBOUR: 'it returns false'. Refute it at one input. -/
def flashProgramsWrong : ChangeSpec := { name := "flashPrograms", fn := fun _ => fun
  | [d1, d2, d3] => { results := [.lit (.bool false)], args := [d1, d2, d3] }
  | _ => none }
def FlashProgramsWrongFalsely : Prop := flashProgramsRow.holds Try.pinned (OpenSpec.ofChange flashProgramsWrong)

/-- 'inlaylaw17.FlashCuts': WHATEVER THE INPUT: true; the input reads as it did. -/
def flashCutsSpec : ChangeSpec := { name := "flashCuts", fn := fun _ => fun
  | [d1, d2] => { results := [.lit (.bool true)], args := [d1, d2] }
  | _ => none }
def flashCutsRow : OpenClaim := { program := "ythfjkdgopkmgoaa", sum := "035b70d163f7a682fcb63fcd97d173699e6a938b1a499be2a2e223427ba6b15f", func := "inlay/inlaylaw17.FlashCuts", spec := "flashCuts", inPlace := ["internal/bytealg.MakeNoZero"], unfollowed := true, recurses := true, apart := false }
def FlashCutsSaid : Prop := flashCutsRow.holds Try.pinned (OpenSpec.ofChange flashCutsSpec)

/-- ITS FALSE NEIGHBOUR: 'it returns false'. Refute it at one input. -/
def flashCutsWrong : ChangeSpec := { name := "flashCuts", fn := fun _ => fun
  | [d1, d2] => { results := [.lit (.bool false)], args := [d1, d2] }
  | _ => none }
def FlashCutsWrongFalsely : Prop := flashCutsRow.holds Try.pinned (OpenSpec.ofChange flashCutsWrong)

/-- 'inlaylaw17.FlashFinishes': WHATEVER THE INPUT: true; the input reads as it did. -/
def flashFinishesSpec : ChangeSpec := { name := "flashFinishes", fn := fun _ => fun
  | [d1, d2] => { results := [.lit (.bool true)], args := [d1, d2] }
  | _ => none }
def flashFinishesRow : OpenClaim := { program := "ythfjkdgopkmgoaa", sum := "035b70d163f7a682fcb63fcd97d173699e6a938b1a499be2a2e223427ba6b15f", func := "inlay/inlaylaw17.FlashFinishes", spec := "flashFinishes", inPlace := ["internal/bytealg.MakeNoZero"], unfollowed := true, recurses := true, apart := false }
def FlashFinishesSaid : Prop := flashFinishesRow.holds Try.pinned (OpenSpec.ofChange flashFinishesSpec)

/-- ITS FALSE NEIGHBOUR: 'it returns false'. Refute it at one input. -/
def flashFinishesWrong : ChangeSpec := { name := "flashFinishes", fn := fun _ => fun
  | [d1, d2] => { results := [.lit (.bool false)], args := [d1, d2] }
  | _ => none }
def FlashFinishesWrongFalsely : Prop := flashFinishesRow.holds Try.pinned (OpenSpec.ofChange flashFinishesWrong)

/-- 'inlaylaw17.FlashReaches': WHATEVER THE INPUT: true; the input reads as it did. -/
def flashReachesSpec : ChangeSpec := { name := "flashReaches", fn := fun _ => fun
  | [d1, d2, d3] => { results := [.lit (.bool true)], args := [d1, d2, d3] }
  | _ => none }
def flashReachesRow : OpenClaim := { program := "ythfjkdgopkmgoaa", sum := "035b70d163f7a682fcb63fcd97d173699e6a938b1a499be2a2e223427ba6b15f", func := "inlay/inlaylaw17.FlashReaches", spec := "flashReaches", inPlace := ["internal/bytealg.MakeNoZero"], unfollowed := true, recurses := true, apart := false }
def FlashReachesSaid : Prop := flashReachesRow.holds Try.pinned (OpenSpec.ofChange flashReachesSpec)

/-- ITS FALSE NEIGHBOUR: 'it returns false'. Refute it at one input. -/
def flashReachesWrong : ChangeSpec := { name := "flashReaches", fn := fun _ => fun
  | [d1, d2, d3] => { results := [.lit (.bool false)], args := [d1, d2, d3] }
  | _ => none }
def FlashReachesWrongFalsely : Prop := flashReachesRow.holds Try.pinned (OpenSpec.ofChange flashReachesWrong)

/-- 'inlaylaw17.FlashOthers': WHATEVER THE INPUT: true; the input reads as it did. -/
def flashOthersSpec : ChangeSpec := { name := "flashOthers", fn := fun _ => fun
  | [d1, d2] => { results := [.lit (.bool true)], args := [d1, d2] }
  | _ => none }
def flashOthersRow : OpenClaim := { program := "ythfjkdgopkmgoaa", sum := "035b70d163f7a682fcb63fcd97d173699e6a938b1a499be2a2e223427ba6b15f", func := "inlay/inlaylaw17.FlashOthers", spec := "flashOthers", inPlace := ["internal/bytealg.MakeNoZero"], unfollowed := true, recurses := true, apart := false }
def FlashOthersSaid : Prop := flashOthersRow.holds Try.pinned (OpenSpec.ofChange flashOthersSpec)

/-- ITS FALSE NEIGHBOUR: 'it returns false'. Refute it at one input. -/
def flashOthersWrong : ChangeSpec := { name := "flashOthers", fn := fun _ => fun
  | [d1, d2] => { results := [.lit (.bool false)], args := [d1, d2] }
  | _ => none }
def FlashOthersWrongFalsely : Prop := flashOthersRow.holds Try.pinned (OpenSpec.ofChange flashOthersWrong)

/-- 'inlaylaw21.SavedWrites': WHATEVER THE INPUT: true; the input reads as it did. -/
def savedWritesSpec : ChangeSpec := { name := "savedWrites", fn := fun _ => fun
  | [d1, d2, d3] => { results := [.lit (.bool true)], args := [d1, d2, d3] }
  | _ => none }
def savedWritesRow : OpenClaim := { program := "ythfjkdgopkmgoaa", sum := "035b70d163f7a682fcb63fcd97d173699e6a938b1a499be2a2e223427ba6b15f", func := "inlay/inlaylaw21.SavedWrites", spec := "savedWrites", unfollowed := true, recurses := true, apart := false }
def SavedWritesSaid : Prop := savedWritesRow.holds Try.pinned (OpenSpec.ofChange savedWritesSpec)

/-- ITS FALSE NEIGHBOUR: 'it returns false'. Refute it at one input. -/
def savedWritesWrong : ChangeSpec := { name := "savedWrites", fn := fun _ => fun
  | [d1, d2, d3] => { results := [.lit (.bool false)], args := [d1, d2, d3] }
  | _ => none }
def SavedWritesWrongFalsely : Prop := savedWritesRow.holds Try.pinned (OpenSpec.ofChange savedWritesWrong)

/- THE SECOND FORM. 'bulk': how many values and letters a reading holds, each counted each time it is reached (what is shared counts as often as it is met; a slice's spare places count too). A statement '..UptoSaid' is the law's where the arguments, and the package variables that the reading takes, are together of bulk at most 1048576: NARROWER than '..Said'. Prove '..Said' where nothing that the law and all that it calls make is longer than what came in: it says more and counts as full. Else prove '..UptoSaid'. A law counts once. -/
mutual
def uptoBulk {H : Type} : DataW H → Nat
  | .lit (.string bytes) => bytes.length + 1
  | .lit _ => 1
  | .nil => 1
  | .ptr d => uptoBulk d + 1
  | .slice elems spare => uptoBulkAll elems + uptoBulkAll spare + 1
  | .agg parts => uptoBulkAll parts + 1
  | .iface _ d => uptoBulk d + 1
  | .map entries => uptoBulkEntries entries + 1
  | .held _ => 1
def uptoBulkAll {H : Type} : List (DataW H) → Nat
  | [] => 0
  | d :: r => uptoBulk d + uptoBulkAll r
def uptoBulkEntries {H : Type} : List (Lit × DataW H) → Nat
  | [] => 0
  | x :: r => uptoBulkEntry x + uptoBulkEntries r
def uptoBulkEntry {H : Type} : Lit × DataW H → Nat
  | (.string bytes, d) => bytes.length + uptoBulk d + 1
  | (_, d) => uptoBulk d + 1
 end
def uptoSmall : (H : Type) → List (DataW H) → Bool := fun _ ds => decide (uptoBulkAll ds ≤ 1048576)
def OpenSpec.upto (s : _root_.Go.ChangeSpec) : _root_.Go.OpenSpec := { _root_.Go.OpenSpec.ofChange s with cond := some uptoSmall }

/-- 'inlaylaw21.SavedMatchesReference', WHERE WHAT IT READS IS OF BULK AT MOST 1048576: true; the input reads as it did. -/
def savedMatchesReferenceUptoRow : OpenClaim := { program := "ythfjkdgopkmgoaa", sum := "035b70d163f7a682fcb63fcd97d173699e6a938b1a499be2a2e223427ba6b15f", func := "inlay/inlaylaw21.SavedMatchesReference", spec := "savedMatchesReference", unfollowed := true, recurses := true, apart := false, narrowed := true }
def SavedMatchesReferenceUptoSaid : Prop := savedMatchesReferenceUptoRow.holds Try.pinned (OpenSpec.upto savedMatchesReferenceSpec)

/-- 'inlaylaw21.SavedRestores', WHERE WHAT IT READS IS OF BULK AT MOST 1048576: true; the input reads as it did. -/
def savedRestoresUptoRow : OpenClaim := { program := "ythfjkdgopkmgoaa", sum := "035b70d163f7a682fcb63fcd97d173699e6a938b1a499be2a2e223427ba6b15f", func := "inlay/inlaylaw21.SavedRestores", spec := "savedRestores", unfollowed := true, recurses := true, apart := false, narrowed := true }
def SavedRestoresUptoSaid : Prop := savedRestoresUptoRow.holds Try.pinned (OpenSpec.upto savedRestoresSpec)

/-- 'inlaylaw21.SavedSizes', WHERE WHAT IT READS IS OF BULK AT MOST 1048576: true; the input reads as it did. -/
def savedSizesUptoRow : OpenClaim := { program := "ythfjkdgopkmgoaa", sum := "035b70d163f7a682fcb63fcd97d173699e6a938b1a499be2a2e223427ba6b15f", func := "inlay/inlaylaw21.SavedSizes", spec := "savedSizes", unfollowed := true, recurses := true, apart := false, narrowed := true }
def SavedSizesUptoSaid : Prop := savedSizesUptoRow.holds Try.pinned (OpenSpec.upto savedSizesSpec)

/-- 'inlaylaw21.SavedReadsBack', WHERE WHAT IT READS IS OF BULK AT MOST 1048576: true; the input reads as it did. -/
def savedReadsBackUptoRow : OpenClaim := { program := "ythfjkdgopkmgoaa", sum := "035b70d163f7a682fcb63fcd97d173699e6a938b1a499be2a2e223427ba6b15f", func := "inlay/inlaylaw21.SavedReadsBack", spec := "savedReadsBack", unfollowed := true, recurses := true, apart := false, narrowed := true }
def SavedReadsBackUptoSaid : Prop := savedReadsBackUptoRow.holds Try.pinned (OpenSpec.upto savedReadsBackSpec)

/-- 'inlaylaw21.SavedChains', WHERE WHAT IT READS IS OF BULK AT MOST 1048576: true; the input reads as it did. -/
def savedChainsUptoRow : OpenClaim := { program := "ythfjkdgopkmgoaa", sum := "035b70d163f7a682fcb63fcd97d173699e6a938b1a499be2a2e223427ba6b15f", func := "inlay/inlaylaw21.SavedChains", spec := "savedChains", unfollowed := true, recurses := true, apart := false, narrowed := true }
def SavedChainsUptoSaid : Prop := savedChainsUptoRow.holds Try.pinned (OpenSpec.upto savedChainsSpec)

/-- 'inlaylaw21.SavedRefuses', WHERE WHAT IT READS IS OF BULK AT MOST 1048576: true; the input reads as it did. -/
def savedRefusesUptoRow : OpenClaim := { program := "ythfjkdgopkmgoaa", sum := "035b70d163f7a682fcb63fcd97d173699e6a938b1a499be2a2e223427ba6b15f", func := "inlay/inlaylaw21.SavedRefuses", spec := "savedRefuses", unfollowed := true, recurses := true, apart := false, narrowed := true }
def SavedRefusesUptoSaid : Prop := savedRefusesUptoRow.holds Try.pinned (OpenSpec.upto savedRefusesSpec)

/-- 'inlaylaw21.SavedLimits', WHERE WHAT IT READS IS OF BULK AT MOST 1048576: true; the input reads as it did. -/
def savedLimitsUptoRow : OpenClaim := { program := "ythfjkdgopkmgoaa", sum := "035b70d163f7a682fcb63fcd97d173699e6a938b1a499be2a2e223427ba6b15f", func := "inlay/inlaylaw21.SavedLimits", spec := "savedLimits", unfollowed := true, recurses := true, apart := false, narrowed := true }
def SavedLimitsUptoSaid : Prop := savedLimitsUptoRow.holds Try.pinned (OpenSpec.upto savedLimitsSpec)

/-- 'inlaylaw17.FlashMatchesReference', WHERE WHAT IT READS IS OF BULK AT MOST 1048576: true; the input reads as it did. -/
def flashMatchesReferenceUptoRow : OpenClaim := { program := "ythfjkdgopkmgoaa", sum := "035b70d163f7a682fcb63fcd97d173699e6a938b1a499be2a2e223427ba6b15f", func := "inlay/inlaylaw17.FlashMatchesReference", spec := "flashMatchesReference", inPlace := ["internal/bytealg.MakeNoZero"], unfollowed := true, recurses := true, apart := false, narrowed := true }
def FlashMatchesReferenceUptoSaid : Prop := flashMatchesReferenceUptoRow.holds Try.pinned (OpenSpec.upto flashMatchesReferenceSpec)

/-- 'inlaylaw17.FlashValid', WHERE WHAT IT READS IS OF BULK AT MOST 1048576: true; the input reads as it did. -/
def flashValidUptoRow : OpenClaim := { program := "ythfjkdgopkmgoaa", sum := "035b70d163f7a682fcb63fcd97d173699e6a938b1a499be2a2e223427ba6b15f", func := "inlay/inlaylaw17.FlashValid", spec := "flashValid", inPlace := ["internal/bytealg.MakeNoZero"], unfollowed := true, recurses := true, apart := false, narrowed := true }
def FlashValidUptoSaid : Prop := flashValidUptoRow.holds Try.pinned (OpenSpec.upto flashValidSpec)

/-- 'inlaylaw17.FlashPrograms', WHERE WHAT IT READS IS OF BULK AT MOST 1048576: true; the input reads as it did. -/
def flashProgramsUptoRow : OpenClaim := { program := "ythfjkdgopkmgoaa", sum := "035b70d163f7a682fcb63fcd97d173699e6a938b1a499be2a2e223427ba6b15f", func := "inlay/inlaylaw17.FlashPrograms", spec := "flashPrograms", inPlace := ["internal/bytealg.MakeNoZero"], unfollowed := true, recurses := true, apart := false, narrowed := true }
def FlashProgramsUptoSaid : Prop := flashProgramsUptoRow.holds Try.pinned (OpenSpec.upto flashProgramsSpec)

/-- 'inlaylaw17.FlashCuts', WHERE WHAT IT READS IS OF BULK AT MOST 1048576: true; the input reads as it did. -/
def flashCutsUptoRow : OpenClaim := { program := "ythfjkdgopkmgoaa", sum := "035b70d163f7a682fcb63fcd97d173699e6a938b1a499be2a2e223427ba6b15f", func := "inlay/inlaylaw17.FlashCuts", spec := "flashCuts", inPlace := ["internal/bytealg.MakeNoZero"], unfollowed := true, recurses := true, apart := false, narrowed := true }
def FlashCutsUptoSaid : Prop := flashCutsUptoRow.holds Try.pinned (OpenSpec.upto flashCutsSpec)

/-- 'inlaylaw17.FlashFinishes', WHERE WHAT IT READS IS OF BULK AT MOST 1048576: true; the input reads as it did. -/
def flashFinishesUptoRow : OpenClaim := { program := "ythfjkdgopkmgoaa", sum := "035b70d163f7a682fcb63fcd97d173699e6a938b1a499be2a2e223427ba6b15f", func := "inlay/inlaylaw17.FlashFinishes", spec := "flashFinishes", inPlace := ["internal/bytealg.MakeNoZero"], unfollowed := true, recurses := true, apart := false, narrowed := true }
def FlashFinishesUptoSaid : Prop := flashFinishesUptoRow.holds Try.pinned (OpenSpec.upto flashFinishesSpec)

/-- 'inlaylaw17.FlashReaches', WHERE WHAT IT READS IS OF BULK AT MOST 1048576: true; the input reads as it did. -/
def flashReachesUptoRow : OpenClaim := { program := "ythfjkdgopkmgoaa", sum := "035b70d163f7a682fcb63fcd97d173699e6a938b1a499be2a2e223427ba6b15f", func := "inlay/inlaylaw17.FlashReaches", spec := "flashReaches", inPlace := ["internal/bytealg.MakeNoZero"], unfollowed := true, recurses := true, apart := false, narrowed := true }
def FlashReachesUptoSaid : Prop := flashReachesUptoRow.holds Try.pinned (OpenSpec.upto flashReachesSpec)

/-- 'inlaylaw17.FlashOthers', WHERE WHAT IT READS IS OF BULK AT MOST 1048576: true; the input reads as it did. -/
def flashOthersUptoRow : OpenClaim := { program := "ythfjkdgopkmgoaa", sum := "035b70d163f7a682fcb63fcd97d173699e6a938b1a499be2a2e223427ba6b15f", func := "inlay/inlaylaw17.FlashOthers", spec := "flashOthers", inPlace := ["internal/bytealg.MakeNoZero"], unfollowed := true, recurses := true, apart := false, narrowed := true }
def FlashOthersUptoSaid : Prop := flashOthersUptoRow.holds Try.pinned (OpenSpec.upto flashOthersSpec)

/-- 'inlaylaw21.SavedWrites', WHERE WHAT IT READS IS OF BULK AT MOST 1048576: true; the input reads as it did. -/
def savedWritesUptoRow : OpenClaim := { program := "ythfjkdgopkmgoaa", sum := "035b70d163f7a682fcb63fcd97d173699e6a938b1a499be2a2e223427ba6b15f", func := "inlay/inlaylaw21.SavedWrites", spec := "savedWrites", unfollowed := true, recurses := true, apart := false, narrowed := true }
def SavedWritesUptoSaid : Prop := savedWritesUptoRow.holds Try.pinned (OpenSpec.upto savedWritesSpec)

end Rows
end Go.Proofs.Ythfjkdgopkmgoaa
