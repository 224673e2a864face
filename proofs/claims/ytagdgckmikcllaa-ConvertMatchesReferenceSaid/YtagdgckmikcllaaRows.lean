/-
  No cell of these rows narrows 'for every input' (looked for: loops, veiled, ifaces, maps, wideKeys, modest, calm, conditions, laid).
  DERIVED. THE GIVEN ROWS OF THIS SEAT. 3 by the template 'for every input the law returns true; each argument reads behind the call as it read before'; 0 by the template 'total and deterministic' (their statements: YtagdgckmikcllaaTotals.lean).
  GIVEN WITH THE SEED: the statements are not yours to turn. If you find one false, say at which input.
  Laid BY PROGRAM, IN A SANDBOX (cutbox-rows.mjs): the forced cells as the released guide's own fill.sh prints them over the translation b6e32a6ee9c9ddda… (all of the seat's roots in one cut). By AI agents, Wed Nov 11 2026. No macro, syntax, notation, axiom, sorry.
-/
import Derived.Test.YtagdgckmikcllaaChecked
import GoSem.Claim
import GoSem.ClaimJoined
import GoSem.ClaimMapViews
import Derived.JoinedTies
import Derived.KernelRfl
namespace Go.Proofs.Ytagdgckmikcllaa
/- THE CELL 'sum', in the pinned program and in every row, IS THE sha256 OF THE DUMP (.gsa) THAT YtagdgckmikcllaaProg.lean LOADS. Nothing in Lean hashes anything: it is a label: what it is worth is what the hold of that sum in a sandbox is worth. -/
noncomputable def Try.pinned : Pinned := { name := "ytagdgckmikcllaa", sum := "b6e32a6ee9c9ddda642f01482d34511df59025e6b4fa65b6e7012f66ba3378ff", checked := Try.checked }
namespace Rows
def none {H : Type} : Left H := { results := [], args := [] }

/-- 'warpwrightlaw13.ConvertMatchesReference': WHATEVER THE INPUT: true; the input reads as it did. -/
def convertMatchesReferenceSpec : ChangeSpec := { name := "convertMatchesReference", fn := fun _ => fun
  | [d1, d2, d3] => { results := [.lit (.bool true)], args := [d1, d2, d3] }
  | _ => none }
def convertMatchesReferenceRow : OpenClaim := { program := "ytagdgckmikcllaa", sum := "b6e32a6ee9c9ddda642f01482d34511df59025e6b4fa65b6e7012f66ba3378ff", func := "warpwright/warpwrightlaw13.ConvertMatchesReference", spec := "convertMatchesReference", inPlace := ["maps.clone"], unfollowed := true, recurses := true, apart := false }
def ConvertMatchesReferenceSaid : Prop := convertMatchesReferenceRow.holds Try.pinned (OpenSpec.ofChange convertMatchesReferenceSpec)

/-- ITS FALSE NEIGHBOUR: 'it returns false'. Refute it at one input. -/
def convertMatchesReferenceWrong : ChangeSpec := { name := "convertMatchesReference", fn := fun _ => fun
  | [d1, d2, d3] => { results := [.lit (.bool false)], args := [d1, d2, d3] }
  | _ => none }
def ConvertMatchesReferenceWrongFalsely : Prop := convertMatchesReferenceRow.holds Try.pinned (OpenSpec.ofChange convertMatchesReferenceWrong)

/-- 'warpwrightlaw13.ConvertDamage': WHATEVER THE INPUT: true; the input reads as it did. -/
def convertDamageSpec : ChangeSpec := { name := "convertDamage", fn := fun _ => fun
  | [d1, d2, d3] => { results := [.lit (.bool true)], args := [d1, d2, d3] }
  | _ => none }
def convertDamageRow : OpenClaim := { program := "ytagdgckmikcllaa", sum := "b6e32a6ee9c9ddda642f01482d34511df59025e6b4fa65b6e7012f66ba3378ff", func := "warpwright/warpwrightlaw13.ConvertDamage", spec := "convertDamage", inPlace := ["maps.clone"], unfollowed := true, recurses := true, apart := false }
def ConvertDamageSaid : Prop := convertDamageRow.holds Try.pinned (OpenSpec.ofChange convertDamageSpec)

/-- ITS FALSE NEIGHBOUR: 'it returns false'. Refute it at one input. -/
def convertDamageWrong : ChangeSpec := { name := "convertDamage", fn := fun _ => fun
  | [d1, d2, d3] => { results := [.lit (.bool false)], args := [d1, d2, d3] }
  | _ => none }
def ConvertDamageWrongFalsely : Prop := convertDamageRow.holds Try.pinned (OpenSpec.ofChange convertDamageWrong)

/-- 'warpwrightlaw13.ConvertArms': WHATEVER THE INPUT: true; the input reads as it did. -/
def convertArmsSpec : ChangeSpec := { name := "convertArms", fn := fun _ => fun
  | [d1, d2] => { results := [.lit (.bool true)], args := [d1, d2] }
  | _ => none }
def convertArmsRow : OpenClaim := { program := "ytagdgckmikcllaa", sum := "b6e32a6ee9c9ddda642f01482d34511df59025e6b4fa65b6e7012f66ba3378ff", func := "warpwright/warpwrightlaw13.ConvertArms", spec := "convertArms", inPlace := ["maps.clone"], unfollowed := true, recurses := true, apart := false }
def ConvertArmsSaid : Prop := convertArmsRow.holds Try.pinned (OpenSpec.ofChange convertArmsSpec)

/-- ITS FALSE NEIGHBOUR: 'it returns false'. Refute it at one input. -/
def convertArmsWrong : ChangeSpec := { name := "convertArms", fn := fun _ => fun
  | [d1, d2] => { results := [.lit (.bool false)], args := [d1, d2] }
  | _ => none }
def ConvertArmsWrongFalsely : Prop := convertArmsRow.holds Try.pinned (OpenSpec.ofChange convertArmsWrong)

/- THE SECOND FORM. 'bulk': how many values and letters a reading holds, each counted each time it is reached (what is shared counts as often as it is met; a slice's spare places count too). A statement '..UptoSaid' is the law's where the arguments, and the package variables that the reading takes, are together of bulk at most 1048576: NARROWER than '..Said'. Prove '..Said' where nothing that the law and all that it calls make is longer than what came in: it says more and counts as full. Else prove '..UptoSaid'. A law counts once. -/
mutual
def uptoBulk {H : Type} : DataW H → Nat
  | .lit (.string bytes) => bytes.length + 1
  | .lit _ => 1
  | .nil => 1
  | .ptr d => uptoBulk d + 1
  | .slice elems spare => uptoBulkAll elems + uptoBulkAll spare + 1
  | .agg parts => uptoBulkAll parts + 1
  | .iface _ d => uptoBulk d + 1
  | .map entries => uptoBulkEntries entries + 1
  | .held _ => 1
def uptoBulkAll {H : Type} : List (DataW H) → Nat
  | [] => 0
  | d :: r => uptoBulk d + uptoBulkAll r
def uptoBulkEntries {H : Type} : List (Lit × DataW H) → Nat
  | [] => 0
  | x :: r => uptoBulkEntry x + uptoBulkEntries r
def uptoBulkEntry {H : Type} : Lit × DataW H → Nat
  | (.string bytes, d) => bytes.length + uptoBulk d + 1
  | (_, d) => uptoBulk d + 1
 end
def uptoSmall : (H : Type) → List (DataW H) → Bool := fun _ ds => decide (uptoBulkAll ds ≤ 1048576)
def OpenSpec.upto (s : _root_.Go.ChangeSpec) : _root_.Go.OpenSpec := { _root_.Go.OpenSpec.ofChange s with cond := some uptoSmall }

/-- 'warpwrightlaw13.ConvertMatchesReference', WHERE WHAT IT READS IS OF BULK AT MOST 1048576: true; the input reads as it did. -/
def convertMatchesReferenceUptoRow : OpenClaim := { program := "ytagdgckmikcllaa", sum := "b6e32a6ee9c9ddda642f01482d34511df59025e6b4fa65b6e7012f66ba3378ff", func := "warpwright/warpwrightlaw13.ConvertMatchesReference", spec := "convertMatchesReference", inPlace := ["maps.clone"], unfollowed := true, recurses := true, apart := false, narrowed := true }
def ConvertMatchesReferenceUptoSaid : Prop := convertMatchesReferenceUptoRow.holds Try.pinned (OpenSpec.upto convertMatchesReferenceSpec)

/-- 'warpwrightlaw13.ConvertDamage', WHERE WHAT IT READS IS OF BULK AT MOST 1048576: true; the input reads as it did. -/
def convertDamageUptoRow : OpenClaim := { program := "ytagdgckmikcllaa", sum := "b6e32a6ee9c9ddda642f01482d34511df59025e6b4fa65b6e7012f66ba3378ff", func := "warpwright/warpwrightlaw13.ConvertDamage", spec := "convertDamage", inPlace := ["maps.clone"], unfollowed := true, recurses := true, apart := false, narrowed := true }
def ConvertDamageUptoSaid : Prop := convertDamageUptoRow.holds Try.pinned (OpenSpec.upto convertDamageSpec)

/-- 'warpwrightlaw13.ConvertArms', WHERE WHAT IT READS IS OF BULK AT MOST 1048576: true; the input reads as it did. -/
def convertArmsUptoRow : OpenClaim := { program := "ytagdgckmikcllaa", sum := "b6e32a6ee9c9ddda642f01482d34511df59025e6b4fa65b6e7012f66ba3378ff", func := "warpwright/warpwrightlaw13.ConvertArms", spec := "convertArms", inPlace := ["maps.clone"], unfollowed := true, recurses := true, apart := false, narrowed := true }
def ConvertArmsUptoSaid : Prop := convertArmsUptoRow.holds Try.pinned (OpenSpec.upto convertArmsSpec)

end Rows
end Go.Proofs.Ytagdgckmikcllaa
