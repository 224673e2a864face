/-
  No cell of these rows narrows 'for every input' (looked for: loops, veiled, ifaces, maps, wideKeys, modest, calm, conditions, laid).
  DERIVED. THE GIVEN ROWS OF THIS SEAT. 5 by the template 'for every input the law returns true; each argument reads behind the call as it read before'; 0 by the template 'total and deterministic' (their statements: YtdcbiadlojcaoaaTotals.lean).
  GIVEN WITH THE SEED: the statements are not yours to turn. If you find one false, say at which input.
  Laid BY PROGRAM, IN A SANDBOX (cutbox-rows.mjs): the forced cells as the released guide's own fill.sh prints them over the translation 25d84ae68c580192… (all of the seat's roots in one cut). By AI agents, Wed Nov 11 2026. No macro, syntax, notation, axiom, sorry.
-/
import Derived.Test.YtdcbiadlojcaoaaChecked
import GoSem.Claim
import GoSem.ClaimJoined
import GoSem.ClaimMapViews
import Derived.JoinedTies
import Derived.KernelRfl
namespace Go.Proofs.Ytdcbiadlojcaoaa
/- THE CELL 'sum', in the pinned program and in every row, IS THE sha256 OF THE DUMP (.gsa) THAT YtdcbiadlojcaoaaProg.lean LOADS. Nothing in Lean hashes anything: it is a label: what it is worth is what the hold of that sum in a sandbox is worth. -/
noncomputable def Try.pinned : Pinned := { name := "ytdcbiadlojcaoaa", sum := "25d84ae68c580192431a7c59659aeda16c173b3e64d4e85579b2e3d411ab6f86", checked := Try.checked }
namespace Rows
def none {H : Type} : Left H := { results := [], args := [] }

/-- 'warpwrightlaw14.OrderMatchesReference': WHATEVER THE INPUT: true; the input reads as it did. -/
def orderMatchesReferenceSpec : ChangeSpec := { name := "orderMatchesReference", fn := fun _ => fun
  | [d1, d2, d3] => { results := [.lit (.bool true)], args := [d1, d2, d3] }
  | _ => none }
def orderMatchesReferenceRow : OpenClaim := { program := "ytdcbiadlojcaoaa", sum := "25d84ae68c580192431a7c59659aeda16c173b3e64d4e85579b2e3d411ab6f86", func := "warpwright/warpwrightlaw14.OrderMatchesReference", spec := "orderMatchesReference", recurses := true, apart := false }
def OrderMatchesReferenceSaid : Prop := orderMatchesReferenceRow.holds Try.pinned (OpenSpec.ofChange orderMatchesReferenceSpec)

/-- ITS FALSE NEIGHBOUR: 'it returns false'. Refute it at one input. -/
def orderMatchesReferenceWrong : ChangeSpec := { name := "orderMatchesReference", fn := fun _ => fun
  | [d1, d2, d3] => { results := [.lit (.bool false)], args := [d1, d2, d3] }
  | _ => none }
def OrderMatchesReferenceWrongFalsely : Prop := orderMatchesReferenceRow.holds Try.pinned (OpenSpec.ofChange orderMatchesReferenceWrong)

/-- 'warpwrightlaw14.OrderSwaps': WHATEVER THE INPUT: true; the input reads as it did. -/
def orderSwapsSpec : ChangeSpec := { name := "orderSwaps", fn := fun _ => fun
  | [d1, d2, d3] => { results := [.lit (.bool true)], args := [d1, d2, d3] }
  | _ => none }
def orderSwapsRow : OpenClaim := { program := "ytdcbiadlojcaoaa", sum := "25d84ae68c580192431a7c59659aeda16c173b3e64d4e85579b2e3d411ab6f86", func := "warpwright/warpwrightlaw14.OrderSwaps", spec := "orderSwaps", recurses := true, apart := false }
def OrderSwapsSaid : Prop := orderSwapsRow.holds Try.pinned (OpenSpec.ofChange orderSwapsSpec)

/-- ITS FALSE NEIGHBOUR: 'it returns false'. Refute it at one input. -/
def orderSwapsWrong : ChangeSpec := { name := "orderSwaps", fn := fun _ => fun
  | [d1, d2, d3] => { results := [.lit (.bool false)], args := [d1, d2, d3] }
  | _ => none }
def OrderSwapsWrongFalsely : Prop := orderSwapsRow.holds Try.pinned (OpenSpec.ofChange orderSwapsWrong)

/-- 'warpwrightlaw14.OrderComposes': WHATEVER THE INPUT: true; the input reads as it did. -/
def orderComposesSpec : ChangeSpec := { name := "orderComposes", fn := fun _ => fun
  | [d1, d2, d3] => { results := [.lit (.bool true)], args := [d1, d2, d3] }
  | _ => none }
def orderComposesRow : OpenClaim := { program := "ytdcbiadlojcaoaa", sum := "25d84ae68c580192431a7c59659aeda16c173b3e64d4e85579b2e3d411ab6f86", func := "warpwright/warpwrightlaw14.OrderComposes", spec := "orderComposes", recurses := true, apart := false }
def OrderComposesSaid : Prop := orderComposesRow.holds Try.pinned (OpenSpec.ofChange orderComposesSpec)

/-- ITS FALSE NEIGHBOUR: 'it returns false'. Refute it at one input. -/
def orderComposesWrong : ChangeSpec := { name := "orderComposes", fn := fun _ => fun
  | [d1, d2, d3] => { results := [.lit (.bool false)], args := [d1, d2, d3] }
  | _ => none }
def OrderComposesWrongFalsely : Prop := orderComposesRow.holds Try.pinned (OpenSpec.ofChange orderComposesWrong)

/-- 'warpwrightlaw14.OrderLoads': WHATEVER THE INPUT: true; the input reads as it did. -/
def orderLoadsSpec : ChangeSpec := { name := "orderLoads", fn := fun _ => fun
  | [d1, d2] => { results := [.lit (.bool true)], args := [d1, d2] }
  | _ => none }
def orderLoadsRow : OpenClaim := { program := "ytdcbiadlojcaoaa", sum := "25d84ae68c580192431a7c59659aeda16c173b3e64d4e85579b2e3d411ab6f86", func := "warpwright/warpwrightlaw14.OrderLoads", spec := "orderLoads", recurses := true, apart := false }
def OrderLoadsSaid : Prop := orderLoadsRow.holds Try.pinned (OpenSpec.ofChange orderLoadsSpec)

/-- ITS FALSE NEIGHBOUR: 'it returns false'. Refute it at one input. -/
def orderLoadsWrong : ChangeSpec := { name := "orderLoads", fn := fun _ => fun
  | [d1, d2] => { results := [.lit (.bool false)], args := [d1, d2] }
  | _ => none }
def OrderLoadsWrongFalsely : Prop := orderLoadsRow.holds Try.pinned (OpenSpec.ofChange orderLoadsWrong)

/-- 'warpwrightlaw14.OrderRefuses': WHATEVER THE INPUT: true; the input reads as it did. -/
def orderRefusesSpec : ChangeSpec := { name := "orderRefuses", fn := fun _ => fun
  | [d1, d2] => { results := [.lit (.bool true)], args := [d1, d2] }
  | _ => none }
def orderRefusesRow : OpenClaim := { program := "ytdcbiadlojcaoaa", sum := "25d84ae68c580192431a7c59659aeda16c173b3e64d4e85579b2e3d411ab6f86", func := "warpwright/warpwrightlaw14.OrderRefuses", spec := "orderRefuses", recurses := true, apart := false }
def OrderRefusesSaid : Prop := orderRefusesRow.holds Try.pinned (OpenSpec.ofChange orderRefusesSpec)

/-- ITS FALSE NEIGHBOUR: 'it returns false'. Refute it at one input. -/
def orderRefusesWrong : ChangeSpec := { name := "orderRefuses", fn := fun _ => fun
  | [d1, d2] => { results := [.lit (.bool false)], args := [d1, d2] }
  | _ => none }
def OrderRefusesWrongFalsely : Prop := orderRefusesRow.holds Try.pinned (OpenSpec.ofChange orderRefusesWrong)

/- THE SECOND FORM. 'bulk': how many values and letters a reading holds, each counted each time it is reached (what is shared counts as often as it is met; a slice's spare places count too). A statement '..UptoSaid' is the law's where the arguments, and the package variables that the reading takes, are together of bulk at most 1048576: NARROWER than '..Said'. Prove '..Said' where nothing that the law and all that it calls make is longer than what came in: it says more and counts as full. Else prove '..UptoSaid'. A law counts once. -/
mutual
def uptoBulk {H : Type} : DataW H → Nat
  | .lit (.string bytes) => bytes.length + 1
  | .lit _ => 1
  | .nil => 1
  | .ptr d => uptoBulk d + 1
  | .slice elems spare => uptoBulkAll elems + uptoBulkAll spare + 1
  | .agg parts => uptoBulkAll parts + 1
  | .iface _ d => uptoBulk d + 1
  | .map entries => uptoBulkEntries entries + 1
  | .held _ => 1
def uptoBulkAll {H : Type} : List (DataW H) → Nat
  | [] => 0
  | d :: r => uptoBulk d + uptoBulkAll r
def uptoBulkEntries {H : Type} : List (Lit × DataW H) → Nat
  | [] => 0
  | x :: r => uptoBulkEntry x + uptoBulkEntries r
def uptoBulkEntry {H : Type} : Lit × DataW H → Nat
  | (.string bytes, d) => bytes.length + uptoBulk d + 1
  | (_, d) => uptoBulk d + 1
 end
def uptoSmall : (H : Type) → List (DataW H) → Bool := fun _ ds => decide (uptoBulkAll ds ≤ 1048576)
def OpenSpec.upto (s : _root_.Go.ChangeSpec) : _root_.Go.OpenSpec := { _root_.Go.OpenSpec.ofChange s with cond := some uptoSmall }

/-- 'warpwrightlaw14.OrderMatchesReference', WHERE WHAT IT READS IS OF BULK AT MOST 1048576: true; the input reads as it did. -/
def orderMatchesReferenceUptoRow : OpenClaim := { program := "ytdcbiadlojcaoaa", sum := "25d84ae68c580192431a7c59659aeda16c173b3e64d4e85579b2e3d411ab6f86", func := "warpwright/warpwrightlaw14.OrderMatchesReference", spec := "orderMatchesReference", recurses := true, apart := false, narrowed := true }
def OrderMatchesReferenceUptoSaid : Prop := orderMatchesReferenceUptoRow.holds Try.pinned (OpenSpec.upto orderMatchesReferenceSpec)

/-- 'warpwrightlaw14.OrderSwaps', WHERE WHAT IT READS IS OF BULK AT MOST 1048576: true; the input reads as it did. -/
def orderSwapsUptoRow : OpenClaim := { program := "ytdcbiadlojcaoaa", sum := "25d84ae68c580192431a7c59659aeda16c173b3e64d4e85579b2e3d411ab6f86", func := "warpwright/warpwrightlaw14.OrderSwaps", spec := "orderSwaps", recurses := true, apart := false, narrowed := true }
def OrderSwapsUptoSaid : Prop := orderSwapsUptoRow.holds Try.pinned (OpenSpec.upto orderSwapsSpec)

/-- 'warpwrightlaw14.OrderComposes', WHERE WHAT IT READS IS OF BULK AT MOST 1048576: true; the input reads as it did. -/
def orderComposesUptoRow : OpenClaim := { program := "ytdcbiadlojcaoaa", sum := "25d84ae68c580192431a7c59659aeda16c173b3e64d4e85579b2e3d411ab6f86", func := "warpwright/warpwrightlaw14.OrderComposes", spec := "orderComposes", recurses := true, apart := false, narrowed := true }
def OrderComposesUptoSaid : Prop := orderComposesUptoRow.holds Try.pinned (OpenSpec.upto orderComposesSpec)

/-- 'warpwrightlaw14.OrderLoads', WHERE WHAT IT READS IS OF BULK AT MOST 1048576: true; the input reads as it did. -/
def orderLoadsUptoRow : OpenClaim := { program := "ytdcbiadlojcaoaa", sum := "25d84ae68c580192431a7c59659aeda16c173b3e64d4e85579b2e3d411ab6f86", func := "warpwright/warpwrightlaw14.OrderLoads", spec := "orderLoads", recurses := true, apart := false, narrowed := true }
def OrderLoadsUptoSaid : Prop := orderLoadsUptoRow.holds Try.pinned (OpenSpec.upto orderLoadsSpec)

/-- 'warpwrightlaw14.OrderRefuses', WHERE WHAT IT READS IS OF BULK AT MOST 1048576: true; the input reads as it did. -/
def orderRefusesUptoRow : OpenClaim := { program := "ytdcbiadlojcaoaa", sum := "25d84ae68c580192431a7c59659aeda16c173b3e64d4e85579b2e3d411ab6f86", func := "warpwright/warpwrightlaw14.OrderRefuses", spec := "orderRefuses", recurses := true, apart := false, narrowed := true }
def OrderRefusesUptoSaid : Prop := orderRefusesUptoRow.holds Try.pinned (OpenSpec.upto orderRefusesSpec)

end Rows
end Go.Proofs.Ytdcbiadlojcaoaa
