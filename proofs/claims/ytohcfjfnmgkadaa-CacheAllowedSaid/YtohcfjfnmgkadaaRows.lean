/-
  No cell of these rows narrows 'for every input' (looked for: loops, veiled, ifaces, maps, wideKeys, modest, calm, conditions, laid).
  DERIVED. THE GIVEN ROWS OF THIS SEAT. 6 by the template 'for every input the law returns true; each argument reads behind the call as it read before'; 0 by the template 'total and deterministic' (their statements: YtohcfjfnmgkadaaTotals.lean).
  GIVEN WITH THE SEED: the statements are not yours to turn. If you find one false, say at which input.
  Laid BY PROGRAM, IN A SANDBOX (cutbox-rows.mjs): the forced cells as the released guide's own fill.sh prints them over the translation 91ffe044e857e79d… (all of the seat's roots in one cut). By AI agents, Wed Nov 11 2026. No macro, syntax, notation, axiom, sorry.
-/
import Derived.Test.YtohcfjfnmgkadaaChecked
import GoSem.Claim
import GoSem.ClaimJoined
import GoSem.ClaimMapViews
import Derived.JoinedTies
import Derived.KernelRfl
namespace Go.Proofs.Ytohcfjfnmgkadaa
/- THE CELL 'sum', in the pinned program and in every row, IS THE sha256 OF THE DUMP (.gsa) THAT YtohcfjfnmgkadaaProg.lean LOADS. Nothing in Lean hashes anything: it is a label: what it is worth is what the hold of that sum in a sandbox is worth. -/
noncomputable def Try.pinned : Pinned := { name := "ytohcfjfnmgkadaa", sum := "91ffe044e857e79dc828646fd785fafe15ea299f8e78c0c404b66c1e7e36496a", checked := Try.checked }
namespace Rows
def none {H : Type} : Left H := { results := [], args := [] }

/-- 'warpwrightlaw34.CacheOwn': WHATEVER THE INPUT: true; the input reads as it did. -/
def cacheOwnSpec : ChangeSpec := { name := "cacheOwn", fn := fun _ => fun
  | [d] => { results := [.lit (.bool true)], args := [d] }
  | _ => none }
def cacheOwnRow : OpenClaim := { program := "ytohcfjfnmgkadaa", sum := "91ffe044e857e79dc828646fd785fafe15ea299f8e78c0c404b66c1e7e36496a", func := "warpwright/warpwrightlaw34.CacheOwn", spec := "cacheOwn", unfollowed := true, recurses := true, apart := false }
def CacheOwnSaid : Prop := cacheOwnRow.holds Try.pinned (OpenSpec.ofChange cacheOwnSpec)

/-- ITS FALSE NEIGHBOUR: 'it returns false'. Refute it at one input. -/
def cacheOwnWrong : ChangeSpec := { name := "cacheOwn", fn := fun _ => fun
  | [d] => { results := [.lit (.bool false)], args := [d] }
  | _ => none }
def CacheOwnWrongFalsely : Prop := cacheOwnRow.holds Try.pinned (OpenSpec.ofChange cacheOwnWrong)

/-- 'warpwrightlaw34.CacheFlushes': WHATEVER THE INPUT: true; the input reads as it did. -/
def cacheFlushesSpec : ChangeSpec := { name := "cacheFlushes", fn := fun _ => fun
  | [d1, d2] => { results := [.lit (.bool true)], args := [d1, d2] }
  | _ => none }
def cacheFlushesRow : OpenClaim := { program := "ytohcfjfnmgkadaa", sum := "91ffe044e857e79dc828646fd785fafe15ea299f8e78c0c404b66c1e7e36496a", func := "warpwright/warpwrightlaw34.CacheFlushes", spec := "cacheFlushes", unfollowed := true, recurses := true, apart := false }
def CacheFlushesSaid : Prop := cacheFlushesRow.holds Try.pinned (OpenSpec.ofChange cacheFlushesSpec)

/-- ITS FALSE NEIGHBOUR: 'it returns false'. Refute it at one input. -/
def cacheFlushesWrong : ChangeSpec := { name := "cacheFlushes", fn := fun _ => fun
  | [d1, d2] => { results := [.lit (.bool false)], args := [d1, d2] }
  | _ => none }
def CacheFlushesWrongFalsely : Prop := cacheFlushesRow.holds Try.pinned (OpenSpec.ofChange cacheFlushesWrong)

/-- 'warpwrightlaw34.CacheApart': WHATEVER THE INPUT: true; the input reads as it did. -/
def cacheApartSpec : ChangeSpec := { name := "cacheApart", fn := fun _ => fun
  | [d] => { results := [.lit (.bool true)], args := [d] }
  | _ => none }
def cacheApartRow : OpenClaim := { program := "ytohcfjfnmgkadaa", sum := "91ffe044e857e79dc828646fd785fafe15ea299f8e78c0c404b66c1e7e36496a", func := "warpwright/warpwrightlaw34.CacheApart", spec := "cacheApart", unfollowed := true, recurses := true, apart := false }
def CacheApartSaid : Prop := cacheApartRow.holds Try.pinned (OpenSpec.ofChange cacheApartSpec)

/-- ITS FALSE NEIGHBOUR: 'it returns false'. Refute it at one input. -/
def cacheApartWrong : ChangeSpec := { name := "cacheApart", fn := fun _ => fun
  | [d] => { results := [.lit (.bool false)], args := [d] }
  | _ => none }
def CacheApartWrongFalsely : Prop := cacheApartRow.holds Try.pinned (OpenSpec.ofChange cacheApartWrong)

/-- 'warpwrightlaw34.CacheAdds': WHATEVER THE INPUT: true; the input reads as it did. -/
def cacheAddsSpec : ChangeSpec := { name := "cacheAdds", fn := fun _ => fun
  | [d] => { results := [.lit (.bool true)], args := [d] }
  | _ => none }
def cacheAddsRow : OpenClaim := { program := "ytohcfjfnmgkadaa", sum := "91ffe044e857e79dc828646fd785fafe15ea299f8e78c0c404b66c1e7e36496a", func := "warpwright/warpwrightlaw34.CacheAdds", spec := "cacheAdds", unfollowed := true, recurses := true, apart := false }
def CacheAddsSaid : Prop := cacheAddsRow.holds Try.pinned (OpenSpec.ofChange cacheAddsSpec)

/-- ITS FALSE NEIGHBOUR: 'it returns false'. Refute it at one input. -/
def cacheAddsWrong : ChangeSpec := { name := "cacheAdds", fn := fun _ => fun
  | [d] => { results := [.lit (.bool false)], args := [d] }
  | _ => none }
def CacheAddsWrongFalsely : Prop := cacheAddsRow.holds Try.pinned (OpenSpec.ofChange cacheAddsWrong)

/-- 'warpwrightlaw34.CacheStale': WHATEVER THE INPUT: true; the input reads as it did. -/
def cacheStaleSpec : ChangeSpec := { name := "cacheStale", fn := fun _ => fun
  | [d1, d2, d3] => { results := [.lit (.bool true)], args := [d1, d2, d3] }
  | _ => none }
def cacheStaleRow : OpenClaim := { program := "ytohcfjfnmgkadaa", sum := "91ffe044e857e79dc828646fd785fafe15ea299f8e78c0c404b66c1e7e36496a", func := "warpwright/warpwrightlaw34.CacheStale", spec := "cacheStale", unfollowed := true, recurses := true, apart := false }
def CacheStaleSaid : Prop := cacheStaleRow.holds Try.pinned (OpenSpec.ofChange cacheStaleSpec)

/-- ITS FALSE NEIGHBOUR: 'it returns false'. Refute it at one input. -/
def cacheStaleWrong : ChangeSpec := { name := "cacheStale", fn := fun _ => fun
  | [d1, d2, d3] => { results := [.lit (.bool false)], args := [d1, d2, d3] }
  | _ => none }
def CacheStaleWrongFalsely : Prop := cacheStaleRow.holds Try.pinned (OpenSpec.ofChange cacheStaleWrong)

/-- 'warpwrightlaw34.CacheAllowed': WHATEVER THE INPUT: true; the input reads as it did. -/
def cacheAllowedSpec : ChangeSpec := { name := "cacheAllowed", fn := fun _ => fun
  | [d1, d2] => { results := [.lit (.bool true)], args := [d1, d2] }
  | _ => none }
def cacheAllowedRow : OpenClaim := { program := "ytohcfjfnmgkadaa", sum := "91ffe044e857e79dc828646fd785fafe15ea299f8e78c0c404b66c1e7e36496a", func := "warpwright/warpwrightlaw34.CacheAllowed", spec := "cacheAllowed", unfollowed := true, recurses := true, apart := false }
def CacheAllowedSaid : Prop := cacheAllowedRow.holds Try.pinned (OpenSpec.ofChange cacheAllowedSpec)

/-- ITS FALSE NEIGHBOUR: 'it returns false'. Refute it at one input. -/
def cacheAllowedWrong : ChangeSpec := { name := "cacheAllowed", fn := fun _ => fun
  | [d1, d2] => { results := [.lit (.bool false)], args := [d1, d2] }
  | _ => none }
def CacheAllowedWrongFalsely : Prop := cacheAllowedRow.holds Try.pinned (OpenSpec.ofChange cacheAllowedWrong)

/- THE SECOND FORM. 'bulk': how many values and letters a reading holds, each counted each time it is reached (what is shared counts as often as it is met; a slice's spare places count too). A statement '..UptoSaid' is the law's where the arguments, and the package variables that the reading takes, are together of bulk at most 1048576: NARROWER than '..Said'. Prove '..Said' where nothing that the law and all that it calls make is longer than what came in: it says more and counts as full. Else prove '..UptoSaid'. A law counts once. -/
mutual
def uptoBulk {H : Type} : DataW H → Nat
  | .lit (.string bytes) => bytes.length + 1
  | .lit _ => 1
  | .nil => 1
  | .ptr d => uptoBulk d + 1
  | .slice elems spare => uptoBulkAll elems + uptoBulkAll spare + 1
  | .agg parts => uptoBulkAll parts + 1
  | .iface _ d => uptoBulk d + 1
  | .map entries => uptoBulkEntries entries + 1
  | .held _ => 1
def uptoBulkAll {H : Type} : List (DataW H) → Nat
  | [] => 0
  | d :: r => uptoBulk d + uptoBulkAll r
def uptoBulkEntries {H : Type} : List (Lit × DataW H) → Nat
  | [] => 0
  | x :: r => uptoBulkEntry x + uptoBulkEntries r
def uptoBulkEntry {H : Type} : Lit × DataW H → Nat
  | (.string bytes, d) => bytes.length + uptoBulk d + 1
  | (_, d) => uptoBulk d + 1
 end
def uptoSmall : (H : Type) → List (DataW H) → Bool := fun _ ds => decide (uptoBulkAll ds ≤ 1048576)
def OpenSpec.upto (s : _root_.Go.ChangeSpec) : _root_.Go.OpenSpec := { _root_.Go.OpenSpec.ofChange s with cond := some uptoSmall }

/-- 'warpwrightlaw34.CacheOwn', WHERE WHAT IT READS IS OF BULK AT MOST 1048576: true; the input reads as it did. -/
def cacheOwnUptoRow : OpenClaim := { program := "ytohcfjfnmgkadaa", sum := "91ffe044e857e79dc828646fd785fafe15ea299f8e78c0c404b66c1e7e36496a", func := "warpwright/warpwrightlaw34.CacheOwn", spec := "cacheOwn", unfollowed := true, recurses := true, apart := false, narrowed := true }
def CacheOwnUptoSaid : Prop := cacheOwnUptoRow.holds Try.pinned (OpenSpec.upto cacheOwnSpec)

/-- 'warpwrightlaw34.CacheFlushes', WHERE WHAT IT READS IS OF BULK AT MOST 1048576: true; the input reads as it did. -/
def cacheFlushesUptoRow : OpenClaim := { program := "ytohcfjfnmgkadaa", sum := "91ffe044e857e79dc828646fd785fafe15ea299f8e78c0c404b66c1e7e36496a", func := "warpwright/warpwrightlaw34.CacheFlushes", spec := "cacheFlushes", unfollowed := true, recurses := true, apart := false, narrowed := true }
def CacheFlushesUptoSaid : Prop := cacheFlushesUptoRow.holds Try.pinned (OpenSpec.upto cacheFlushesSpec)

/-- 'warpwrightlaw34.CacheApart', WHERE WHAT IT READS IS OF BULK AT MOST 1048576: true; the input reads as it did. -/
def cacheApartUptoRow : OpenClaim := { program := "ytohcfjfnmgkadaa", sum := "91ffe044e857e79dc828646fd785fafe15ea299f8e78c0c404b66c1e7e36496a", func := "warpwright/warpwrightlaw34.CacheApart", spec := "cacheApart", unfollowed := true, recurses := true, apart := false, narrowed := true }
def CacheApartUptoSaid : Prop := cacheApartUptoRow.holds Try.pinned (OpenSpec.upto cacheApartSpec)

/-- 'warpwrightlaw34.CacheAdds', WHERE WHAT IT READS IS OF BULK AT MOST 1048576: true; the input reads as it did. -/
def cacheAddsUptoRow : OpenClaim := { program := "ytohcfjfnmgkadaa", sum := "91ffe044e857e79dc828646fd785fafe15ea299f8e78c0c404b66c1e7e36496a", func := "warpwright/warpwrightlaw34.CacheAdds", spec := "cacheAdds", unfollowed := true, recurses := true, apart := false, narrowed := true }
def CacheAddsUptoSaid : Prop := cacheAddsUptoRow.holds Try.pinned (OpenSpec.upto cacheAddsSpec)

/-- 'warpwrightlaw34.CacheStale', WHERE WHAT IT READS IS OF BULK AT MOST 1048576: true; the input reads as it did. -/
def cacheStaleUptoRow : OpenClaim := { program := "ytohcfjfnmgkadaa", sum := "91ffe044e857e79dc828646fd785fafe15ea299f8e78c0c404b66c1e7e36496a", func := "warpwright/warpwrightlaw34.CacheStale", spec := "cacheStale", unfollowed := true, recurses := true, apart := false, narrowed := true }
def CacheStaleUptoSaid : Prop := cacheStaleUptoRow.holds Try.pinned (OpenSpec.upto cacheStaleSpec)

/-- 'warpwrightlaw34.CacheAllowed', WHERE WHAT IT READS IS OF BULK AT MOST 1048576: true; the input reads as it did. -/
def cacheAllowedUptoRow : OpenClaim := { program := "ytohcfjfnmgkadaa", sum := "91ffe044e857e79dc828646fd785fafe15ea299f8e78c0c404b66c1e7e36496a", func := "warpwright/warpwrightlaw34.CacheAllowed", spec := "cacheAllowed", unfollowed := true, recurses := true, apart := false, narrowed := true }
def CacheAllowedUptoSaid : Prop := cacheAllowedUptoRow.holds Try.pinned (OpenSpec.upto cacheAllowedSpec)

end Rows
end Go.Proofs.Ytohcfjfnmgkadaa
