/-
  No cell of these rows narrows 'for every input' (looked for: loops, veiled, ifaces, maps, wideKeys, modest, calm, conditions, laid).
  DERIVED. THE GIVEN ROWS OF THIS SEAT. 8 by the template 'for every input the law returns true; each argument reads behind the call as it read before'; 0 by the template 'total and deterministic' (their statements: YthhclebbpbkgdaaTotals.lean).
  GIVEN WITH THE SEED: the statements are not yours to turn. If you find one false, say at which input.
  Laid BY PROGRAM, IN A SANDBOX (cutbox-rows.mjs): the forced cells as the released guide's own fill.sh prints them over the translation ee0dcac0c6d8f03d… (all of the seat's roots in one cut). By AI agents, Wed Nov 11 2026. No macro, syntax, notation, axiom, sorry.
-/
import Derived.Test.YthhclebbpbkgdaaChecked
import GoSem.Claim
import GoSem.ClaimJoined
import GoSem.ClaimMapViews
import Derived.JoinedTies
import Derived.KernelRfl
namespace Go.Proofs.Ythhclebbpbkgdaa
/- THE CELL 'sum', in the pinned program and in every row, IS THE sha256 OF THE DUMP (.gsa) THAT YthhclebbpbkgdaaProg.lean LOADS. Nothing in Lean hashes anything: it is a label: what it is worth is what the hold of that sum in a sandbox is worth. -/
noncomputable def Try.pinned : Pinned := { name := "ythhclebbpbkgdaa", sum := "ee0dcac0c6d8f03de3733dbd1b777f4436fd9d9883cd060f7c4c7901d1c5cd41", checked := Try.checked }
namespace Rows
def none {H : Type} : Left H := { results := [], args := [] }

/-- 'warpwrightlaw32.ViewFences': WHATEVER THE INPUT: true; the input reads as it did. -/
def viewFencesSpec : ChangeSpec := { name := "viewFences", fn := fun _ => fun
  | [d1, d2, d3] => { results := [.lit (.bool true)], args := [d1, d2, d3] }
  | _ => none }
def viewFencesRow : OpenClaim := { program := "ythhclebbpbkgdaa", sum := "ee0dcac0c6d8f03de3733dbd1b777f4436fd9d9883cd060f7c4c7901d1c5cd41", func := "warpwright/warpwrightlaw32.ViewFences", spec := "viewFences", inPlace := ["slices.overlaps[warpwright/api.Outcome]"], unfollowed := true, recurses := true, apart := false }
def ViewFencesSaid : Prop := viewFencesRow.holds Try.pinned (OpenSpec.ofChange viewFencesSpec)

/-- ITS FALSE NEIGHBOUR: 'it returns false'. Refute it at one input. -/
def viewFencesWrong : ChangeSpec := { name := "viewFences", fn := fun _ => fun
  | [d1, d2, d3] => { results := [.lit (.bool false)], args := [d1, d2, d3] }
  | _ => none }
def ViewFencesWrongFalsely : Prop := viewFencesRow.holds Try.pinned (OpenSpec.ofChange viewFencesWrong)

/-- 'warpwrightlaw32.ViewInterleaves': WHATEVER THE INPUT: true; the input reads as it did. -/
def viewInterleavesSpec : ChangeSpec := { name := "viewInterleaves", fn := fun _ => fun
  | [d] => { results := [.lit (.bool true)], args := [d] }
  | _ => none }
def viewInterleavesRow : OpenClaim := { program := "ythhclebbpbkgdaa", sum := "ee0dcac0c6d8f03de3733dbd1b777f4436fd9d9883cd060f7c4c7901d1c5cd41", func := "warpwright/warpwrightlaw32.ViewInterleaves", spec := "viewInterleaves", inPlace := ["slices.overlaps[warpwright/api.Outcome]"], unfollowed := true, recurses := true, apart := false }
def ViewInterleavesSaid : Prop := viewInterleavesRow.holds Try.pinned (OpenSpec.ofChange viewInterleavesSpec)

/-- ITS FALSE NEIGHBOUR: 'it returns false'. Refute it at one input. -/
def viewInterleavesWrong : ChangeSpec := { name := "viewInterleaves", fn := fun _ => fun
  | [d] => { results := [.lit (.bool false)], args := [d] }
  | _ => none }
def ViewInterleavesWrongFalsely : Prop := viewInterleavesRow.holds Try.pinned (OpenSpec.ofChange viewInterleavesWrong)

/-- 'warpwrightlaw32.ViewNames': WHATEVER THE INPUT: true; the input reads as it did. -/
def viewNamesSpec : ChangeSpec := { name := "viewNames", fn := fun _ => fun
  | [d1, d2, d3] => { results := [.lit (.bool true)], args := [d1, d2, d3] }
  | _ => none }
def viewNamesRow : OpenClaim := { program := "ythhclebbpbkgdaa", sum := "ee0dcac0c6d8f03de3733dbd1b777f4436fd9d9883cd060f7c4c7901d1c5cd41", func := "warpwright/warpwrightlaw32.ViewNames", spec := "viewNames", inPlace := ["slices.overlaps[warpwright/api.Outcome]"], unfollowed := true, recurses := true, apart := false }
def ViewNamesSaid : Prop := viewNamesRow.holds Try.pinned (OpenSpec.ofChange viewNamesSpec)

/-- ITS FALSE NEIGHBOUR: 'it returns false'. Refute it at one input. -/
def viewNamesWrong : ChangeSpec := { name := "viewNames", fn := fun _ => fun
  | [d1, d2, d3] => { results := [.lit (.bool false)], args := [d1, d2, d3] }
  | _ => none }
def ViewNamesWrongFalsely : Prop := viewNamesRow.holds Try.pinned (OpenSpec.ofChange viewNamesWrong)

/-- 'warpwrightlaw32.ViewRefuses': WHATEVER THE INPUT: true; the input reads as it did. -/
def viewRefusesSpec : ChangeSpec := { name := "viewRefuses", fn := fun _ => fun
  | [d1, d2, d3] => { results := [.lit (.bool true)], args := [d1, d2, d3] }
  | _ => none }
def viewRefusesRow : OpenClaim := { program := "ythhclebbpbkgdaa", sum := "ee0dcac0c6d8f03de3733dbd1b777f4436fd9d9883cd060f7c4c7901d1c5cd41", func := "warpwright/warpwrightlaw32.ViewRefuses", spec := "viewRefuses", inPlace := ["slices.overlaps[warpwright/api.Outcome]"], unfollowed := true, recurses := true, apart := false }
def ViewRefusesSaid : Prop := viewRefusesRow.holds Try.pinned (OpenSpec.ofChange viewRefusesSpec)

/-- ITS FALSE NEIGHBOUR: 'it returns false'. Refute it at one input. -/
def viewRefusesWrong : ChangeSpec := { name := "viewRefuses", fn := fun _ => fun
  | [d1, d2, d3] => { results := [.lit (.bool false)], args := [d1, d2, d3] }
  | _ => none }
def ViewRefusesWrongFalsely : Prop := viewRefusesRow.holds Try.pinned (OpenSpec.ofChange viewRefusesWrong)

/-- 'warpwrightlaw32.ViewOutcomes': WHATEVER THE INPUT: true; the input reads as it did. -/
def viewOutcomesSpec : ChangeSpec := { name := "viewOutcomes", fn := fun _ => fun
  | [d1, d2] => { results := [.lit (.bool true)], args := [d1, d2] }
  | _ => none }
def viewOutcomesRow : OpenClaim := { program := "ythhclebbpbkgdaa", sum := "ee0dcac0c6d8f03de3733dbd1b777f4436fd9d9883cd060f7c4c7901d1c5cd41", func := "warpwright/warpwrightlaw32.ViewOutcomes", spec := "viewOutcomes", inPlace := ["slices.overlaps[warpwright/api.Outcome]"], unfollowed := true, recurses := true, apart := false }
def ViewOutcomesSaid : Prop := viewOutcomesRow.holds Try.pinned (OpenSpec.ofChange viewOutcomesSpec)

/-- ITS FALSE NEIGHBOUR: 'it returns false'. Refute it at one input. -/
def viewOutcomesWrong : ChangeSpec := { name := "viewOutcomes", fn := fun _ => fun
  | [d1, d2] => { results := [.lit (.bool false)], args := [d1, d2] }
  | _ => none }
def ViewOutcomesWrongFalsely : Prop := viewOutcomesRow.holds Try.pinned (OpenSpec.ofChange viewOutcomesWrong)

/-- 'warpwrightlaw32.ViewMatchesReference': WHATEVER THE INPUT: true; the input reads as it did. -/
def viewMatchesReferenceSpec : ChangeSpec := { name := "viewMatchesReference", fn := fun _ => fun
  | [d1, d2, d3] => { results := [.lit (.bool true)], args := [d1, d2, d3] }
  | _ => none }
def viewMatchesReferenceRow : OpenClaim := { program := "ythhclebbpbkgdaa", sum := "ee0dcac0c6d8f03de3733dbd1b777f4436fd9d9883cd060f7c4c7901d1c5cd41", func := "warpwright/warpwrightlaw32.ViewMatchesReference", spec := "viewMatchesReference", inPlace := ["slices.overlaps[warpwright/api.Outcome]"], unfollowed := true, recurses := true, apart := false }
def ViewMatchesReferenceSaid : Prop := viewMatchesReferenceRow.holds Try.pinned (OpenSpec.ofChange viewMatchesReferenceSpec)

/-- ITS FALSE NEIGHBOUR: 'it returns false'. Refute it at one input. -/
def viewMatchesReferenceWrong : ChangeSpec := { name := "viewMatchesReference", fn := fun _ => fun
  | [d1, d2, d3] => { results := [.lit (.bool false)], args := [d1, d2, d3] }
  | _ => none }
def ViewMatchesReferenceWrongFalsely : Prop := viewMatchesReferenceRow.holds Try.pinned (OpenSpec.ofChange viewMatchesReferenceWrong)

/-- 'warpwrightlaw32.ViewCoheres': WHATEVER THE INPUT: true; the input reads as it did. -/
def viewCoheresSpec : ChangeSpec := { name := "viewCoheres", fn := fun _ => fun
  | [d1, d2] => { results := [.lit (.bool true)], args := [d1, d2] }
  | _ => none }
def viewCoheresRow : OpenClaim := { program := "ythhclebbpbkgdaa", sum := "ee0dcac0c6d8f03de3733dbd1b777f4436fd9d9883cd060f7c4c7901d1c5cd41", func := "warpwright/warpwrightlaw32.ViewCoheres", spec := "viewCoheres", inPlace := ["slices.overlaps[warpwright/api.Outcome]"], unfollowed := true, recurses := true, apart := false }
def ViewCoheresSaid : Prop := viewCoheresRow.holds Try.pinned (OpenSpec.ofChange viewCoheresSpec)

/-- ITS FALSE NEIGHBOUR: 'it returns false'. Refute it at one input. -/
def viewCoheresWrong : ChangeSpec := { name := "viewCoheres", fn := fun _ => fun
  | [d1, d2] => { results := [.lit (.bool false)], args := [d1, d2] }
  | _ => none }
def ViewCoheresWrongFalsely : Prop := viewCoheresRow.holds Try.pinned (OpenSpec.ofChange viewCoheresWrong)

/-- 'warpwrightlaw32.ViewAllowed': WHATEVER THE INPUT: true; the input reads as it did. -/
def viewAllowedSpec : ChangeSpec := { name := "viewAllowed", fn := fun _ => fun
  | [d1, d2] => { results := [.lit (.bool true)], args := [d1, d2] }
  | _ => none }
def viewAllowedRow : OpenClaim := { program := "ythhclebbpbkgdaa", sum := "ee0dcac0c6d8f03de3733dbd1b777f4436fd9d9883cd060f7c4c7901d1c5cd41", func := "warpwright/warpwrightlaw32.ViewAllowed", spec := "viewAllowed", inPlace := ["slices.overlaps[warpwright/api.Outcome]"], unfollowed := true, recurses := true, apart := false }
def ViewAllowedSaid : Prop := viewAllowedRow.holds Try.pinned (OpenSpec.ofChange viewAllowedSpec)

/-- ITS FALSE NEIGHBOUR: 'it returns false'. Refute it at one input. -/
def viewAllowedWrong : ChangeSpec := { name := "viewAllowed", fn := fun _ => fun
  | [d1, d2] => { results := [.lit (.bool false)], args := [d1, d2] }
  | _ => none }
def ViewAllowedWrongFalsely : Prop := viewAllowedRow.holds Try.pinned (OpenSpec.ofChange viewAllowedWrong)

/- THE SECOND FORM. 'bulk': how many values and letters a reading holds, each counted each time it is reached (what is shared counts as often as it is met; a slice's spare places count too). A statement '..UptoSaid' is the law's where the arguments, and the package variables that the reading takes, are together of bulk at most 1048576: NARROWER than '..Said'. Prove '..Said' where nothing that the law and all that it calls make is longer than what came in: it says more and counts as full. Else prove '..UptoSaid'. A law counts once. -/
mutual
def uptoBulk {H : Type} : DataW H → Nat
  | .lit (.string bytes) => bytes.length + 1
  | .lit _ => 1
  | .nil => 1
  | .ptr d => uptoBulk d + 1
  | .slice elems spare => uptoBulkAll elems + uptoBulkAll spare + 1
  | .agg parts => uptoBulkAll parts + 1
  | .iface _ d => uptoBulk d + 1
  | .map entries => uptoBulkEntries entries + 1
  | .held _ => 1
def uptoBulkAll {H : Type} : List (DataW H) → Nat
  | [] => 0
  | d :: r => uptoBulk d + uptoBulkAll r
def uptoBulkEntries {H : Type} : List (Lit × DataW H) → Nat
  | [] => 0
  | x :: r => uptoBulkEntry x + uptoBulkEntries r
def uptoBulkEntry {H : Type} : Lit × DataW H → Nat
  | (.string bytes, d) => bytes.length + uptoBulk d + 1
  | (_, d) => uptoBulk d + 1
 end
def uptoSmall : (H : Type) → List (DataW H) → Bool := fun _ ds => decide (uptoBulkAll ds ≤ 1048576)
def OpenSpec.upto (s : _root_.Go.ChangeSpec) : _root_.Go.OpenSpec := { _root_.Go.OpenSpec.ofChange s with cond := some uptoSmall }

/-- 'warpwrightlaw32.ViewFences', WHERE WHAT IT READS IS OF BULK AT MOST 1048576: true; the input reads as it did. -/
def viewFencesUptoRow : OpenClaim := { program := "ythhclebbpbkgdaa", sum := "ee0dcac0c6d8f03de3733dbd1b777f4436fd9d9883cd060f7c4c7901d1c5cd41", func := "warpwright/warpwrightlaw32.ViewFences", spec := "viewFences", inPlace := ["slices.overlaps[warpwright/api.Outcome]"], unfollowed := true, recurses := true, apart := false, narrowed := true }
def ViewFencesUptoSaid : Prop := viewFencesUptoRow.holds Try.pinned (OpenSpec.upto viewFencesSpec)

/-- 'warpwrightlaw32.ViewInterleaves', WHERE WHAT IT READS IS OF BULK AT MOST 1048576: true; the input reads as it did. -/
def viewInterleavesUptoRow : OpenClaim := { program := "ythhclebbpbkgdaa", sum := "ee0dcac0c6d8f03de3733dbd1b777f4436fd9d9883cd060f7c4c7901d1c5cd41", func := "warpwright/warpwrightlaw32.ViewInterleaves", spec := "viewInterleaves", inPlace := ["slices.overlaps[warpwright/api.Outcome]"], unfollowed := true, recurses := true, apart := false, narrowed := true }
def ViewInterleavesUptoSaid : Prop := viewInterleavesUptoRow.holds Try.pinned (OpenSpec.upto viewInterleavesSpec)

/-- 'warpwrightlaw32.ViewNames', WHERE WHAT IT READS IS OF BULK AT MOST 1048576: true; the input reads as it did. -/
def viewNamesUptoRow : OpenClaim := { program := "ythhclebbpbkgdaa", sum := "ee0dcac0c6d8f03de3733dbd1b777f4436fd9d9883cd060f7c4c7901d1c5cd41", func := "warpwright/warpwrightlaw32.ViewNames", spec := "viewNames", inPlace := ["slices.overlaps[warpwright/api.Outcome]"], unfollowed := true, recurses := true, apart := false, narrowed := true }
def ViewNamesUptoSaid : Prop := viewNamesUptoRow.holds Try.pinned (OpenSpec.upto viewNamesSpec)

/-- 'warpwrightlaw32.ViewRefuses', WHERE WHAT IT READS IS OF BULK AT MOST 1048576: true; the input reads as it did. -/
def viewRefusesUptoRow : OpenClaim := { program := "ythhclebbpbkgdaa", sum := "ee0dcac0c6d8f03de3733dbd1b777f4436fd9d9883cd060f7c4c7901d1c5cd41", func := "warpwright/warpwrightlaw32.ViewRefuses", spec := "viewRefuses", inPlace := ["slices.overlaps[warpwright/api.Outcome]"], unfollowed := true, recurses := true, apart := false, narrowed := true }
def ViewRefusesUptoSaid : Prop := viewRefusesUptoRow.holds Try.pinned (OpenSpec.upto viewRefusesSpec)

/-- 'warpwrightlaw32.ViewOutcomes', WHERE WHAT IT READS IS OF BULK AT MOST 1048576: true; the input reads as it did. -/
def viewOutcomesUptoRow : OpenClaim := { program := "ythhclebbpbkgdaa", sum := "ee0dcac0c6d8f03de3733dbd1b777f4436fd9d9883cd060f7c4c7901d1c5cd41", func := "warpwright/warpwrightlaw32.ViewOutcomes", spec := "viewOutcomes", inPlace := ["slices.overlaps[warpwright/api.Outcome]"], unfollowed := true, recurses := true, apart := false, narrowed := true }
def ViewOutcomesUptoSaid : Prop := viewOutcomesUptoRow.holds Try.pinned (OpenSpec.upto viewOutcomesSpec)

/-- 'warpwrightlaw32.ViewMatchesReference', WHERE WHAT IT READS IS OF BULK AT MOST 1048576: true; the input reads as it did. -/
def viewMatchesReferenceUptoRow : OpenClaim := { program := "ythhclebbpbkgdaa", sum := "ee0dcac0c6d8f03de3733dbd1b777f4436fd9d9883cd060f7c4c7901d1c5cd41", func := "warpwright/warpwrightlaw32.ViewMatchesReference", spec := "viewMatchesReference", inPlace := ["slices.overlaps[warpwright/api.Outcome]"], unfollowed := true, recurses := true, apart := false, narrowed := true }
def ViewMatchesReferenceUptoSaid : Prop := viewMatchesReferenceUptoRow.holds Try.pinned (OpenSpec.upto viewMatchesReferenceSpec)

/-- 'warpwrightlaw32.ViewCoheres', WHERE WHAT IT READS IS OF BULK AT MOST 1048576: true; the input reads as it did. -/
def viewCoheresUptoRow : OpenClaim := { program := "ythhclebbpbkgdaa", sum := "ee0dcac0c6d8f03de3733dbd1b777f4436fd9d9883cd060f7c4c7901d1c5cd41", func := "warpwright/warpwrightlaw32.ViewCoheres", spec := "viewCoheres", inPlace := ["slices.overlaps[warpwright/api.Outcome]"], unfollowed := true, recurses := true, apart := false, narrowed := true }
def ViewCoheresUptoSaid : Prop := viewCoheresUptoRow.holds Try.pinned (OpenSpec.upto viewCoheresSpec)

/-- 'warpwrightlaw32.ViewAllowed', WHERE WHAT IT READS IS OF BULK AT MOST 1048576: true; the input reads as it did. -/
def viewAllowedUptoRow : OpenClaim := { program := "ythhclebbpbkgdaa", sum := "ee0dcac0c6d8f03de3733dbd1b777f4436fd9d9883cd060f7c4c7901d1c5cd41", func := "warpwright/warpwrightlaw32.ViewAllowed", spec := "viewAllowed", inPlace := ["slices.overlaps[warpwright/api.Outcome]"], unfollowed := true, recurses := true, apart := false, narrowed := true }
def ViewAllowedUptoSaid : Prop := viewAllowedUptoRow.holds Try.pinned (OpenSpec.upto viewAllowedSpec)

end Rows
end Go.Proofs.Ythhclebbpbkgdaa
