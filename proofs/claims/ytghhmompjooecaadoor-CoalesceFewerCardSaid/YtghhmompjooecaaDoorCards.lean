/-
  DERIVED. GIVEN WITH THE SEED: THE CARDS: each row of YtghhmompjooecaaDoorRows.lean that lists a variable, with what it lists TIED to the program's text (the seventh form; the later family's looks); each row that meets fmt, with fmt's text TOLD by the authors' own Lean function (tested against real Go, not proved from fmt's source: count such statements apart). THE CARD IS WHAT COUNTS. Prove the row's statement (the work); the ties are given (YtghhmompjooecaaDoorTie.lean); close each card by the builder's one call (the guide's Derived/Test/ToyasCard.lean, 'card_holds'). Laid BY PROGRAM, IN A SANDBOX (cutbox-door.mjs). By AI agents, Wed Nov 11 2026. No macro, syntax, notation, axiom, sorry.
-/
import Derived.Test.YtghhmompjooecaaDoorRows
import GoSem.ClaimSeven
namespace Go.Proofs.YtghhmompjooecaaDoor
namespace Rows

/-- THE TIED CARD OF 'warpwrightlaw22.CoalesceMatchesReference'. -/
def coalesceMatchesReferenceCard : Claim7 := { stood := { row := coalesceMatchesReferenceRow, standIns := [], harness := (true, "d5983a9aa6b571c4b2995309dc6bd9fb9601bb370d8130d876cb1f606cecb1f5"), looks := false }, kinds := [], alts := [], laidByText := true, laidKinds := [.data], laidTests := true, laidLooks := .later }
def CoalesceMatchesReferenceCardSaid : Prop := Claim7.holds Tryd.pinned (.plain (OpenSpec.ofChange coalesceMatchesReferenceSpec)) coalesceMatchesReferenceCard

/-- THE TIED CARD OF 'warpwrightlaw22.CoalesceSegments'. -/
def coalesceSegmentsCard : Claim7 := { stood := { row := coalesceSegmentsRow, standIns := [], harness := (true, "d5983a9aa6b571c4b2995309dc6bd9fb9601bb370d8130d876cb1f606cecb1f5"), looks := false }, kinds := [], alts := [], laidByText := true, laidKinds := [.data], laidTests := true, laidLooks := .later }
def CoalesceSegmentsCardSaid : Prop := Claim7.holds Tryd.pinned (.plain (OpenSpec.ofChange coalesceSegmentsSpec)) coalesceSegmentsCard

/-- THE TIED CARD OF 'warpwrightlaw22.CoalesceMoves'. -/
def coalesceMovesCard : Claim7 := { stood := { row := coalesceMovesRow, standIns := [], harness := (true, "d5983a9aa6b571c4b2995309dc6bd9fb9601bb370d8130d876cb1f606cecb1f5"), looks := false }, kinds := [], alts := [], laidByText := true, laidKinds := [.data], laidTests := true, laidLooks := .later }
def CoalesceMovesCardSaid : Prop := Claim7.holds Tryd.pinned (.plain (OpenSpec.ofChange coalesceMovesSpec)) coalesceMovesCard

/-- THE TIED CARD OF 'warpwrightlaw22.CoalesceBounds'. -/
def coalesceBoundsCard : Claim7 := { stood := { row := coalesceBoundsRow, standIns := [], harness := (true, "d5983a9aa6b571c4b2995309dc6bd9fb9601bb370d8130d876cb1f606cecb1f5"), looks := false }, kinds := [], alts := [], laidByText := true, laidKinds := [.data], laidTests := true, laidLooks := .later }
def CoalesceBoundsCardSaid : Prop := Claim7.holds Tryd.pinned (.plain (OpenSpec.ofChange coalesceBoundsSpec)) coalesceBoundsCard

/-- THE TIED CARD OF 'warpwrightlaw22.CoalesceSharp'. -/
def coalesceSharpCard : Claim7 := { stood := { row := coalesceSharpRow, standIns := [], harness := (true, "d5983a9aa6b571c4b2995309dc6bd9fb9601bb370d8130d876cb1f606cecb1f5"), looks := false }, kinds := [], alts := [], laidByText := true, laidKinds := [.data], laidTests := true, laidLooks := .later }
def CoalesceSharpCardSaid : Prop := Claim7.holds Tryd.pinned (.plain (OpenSpec.ofChange coalesceSharpSpec)) coalesceSharpCard

/-- THE TIED CARD OF 'warpwrightlaw22.CoalesceFewer'. -/
def coalesceFewerCard : Claim7 := { stood := { row := coalesceFewerRow, standIns := [], harness := (true, "d5983a9aa6b571c4b2995309dc6bd9fb9601bb370d8130d876cb1f606cecb1f5"), looks := false }, kinds := [], alts := [], laidByText := true, laidKinds := [.data], laidTests := true, laidLooks := .later }
def CoalesceFewerCardSaid : Prop := Claim7.holds Tryd.pinned (.plain (OpenSpec.ofChange coalesceFewerSpec)) coalesceFewerCard

/-- THE SECOND FORM's CARD OF 'warpwrightlaw22.CoalesceMatchesReference'. -/
def coalesceMatchesReferenceUptoCard : Claim7 := { stood := { row := coalesceMatchesReferenceUptoRow, standIns := [], harness := (true, "d5983a9aa6b571c4b2995309dc6bd9fb9601bb370d8130d876cb1f606cecb1f5"), looks := false }, kinds := [], alts := [], laidByText := true, laidKinds := [.data], laidTests := true, laidLooks := .later }
def CoalesceMatchesReferenceUptoCardSaid : Prop := Claim7.holds Tryd.pinned (.plain (OpenSpec.upto coalesceMatchesReferenceSpec)) coalesceMatchesReferenceUptoCard

/-- THE SECOND FORM's CARD OF 'warpwrightlaw22.CoalesceSegments'. -/
def coalesceSegmentsUptoCard : Claim7 := { stood := { row := coalesceSegmentsUptoRow, standIns := [], harness := (true, "d5983a9aa6b571c4b2995309dc6bd9fb9601bb370d8130d876cb1f606cecb1f5"), looks := false }, kinds := [], alts := [], laidByText := true, laidKinds := [.data], laidTests := true, laidLooks := .later }
def CoalesceSegmentsUptoCardSaid : Prop := Claim7.holds Tryd.pinned (.plain (OpenSpec.upto coalesceSegmentsSpec)) coalesceSegmentsUptoCard

/-- THE SECOND FORM's CARD OF 'warpwrightlaw22.CoalesceMoves'. -/
def coalesceMovesUptoCard : Claim7 := { stood := { row := coalesceMovesUptoRow, standIns := [], harness := (true, "d5983a9aa6b571c4b2995309dc6bd9fb9601bb370d8130d876cb1f606cecb1f5"), looks := false }, kinds := [], alts := [], laidByText := true, laidKinds := [.data], laidTests := true, laidLooks := .later }
def CoalesceMovesUptoCardSaid : Prop := Claim7.holds Tryd.pinned (.plain (OpenSpec.upto coalesceMovesSpec)) coalesceMovesUptoCard

/-- THE SECOND FORM's CARD OF 'warpwrightlaw22.CoalesceBounds'. -/
def coalesceBoundsUptoCard : Claim7 := { stood := { row := coalesceBoundsUptoRow, standIns := [], harness := (true, "d5983a9aa6b571c4b2995309dc6bd9fb9601bb370d8130d876cb1f606cecb1f5"), looks := false }, kinds := [], alts := [], laidByText := true, laidKinds := [.data], laidTests := true, laidLooks := .later }
def CoalesceBoundsUptoCardSaid : Prop := Claim7.holds Tryd.pinned (.plain (OpenSpec.upto coalesceBoundsSpec)) coalesceBoundsUptoCard

/-- THE SECOND FORM's CARD OF 'warpwrightlaw22.CoalesceSharp'. -/
def coalesceSharpUptoCard : Claim7 := { stood := { row := coalesceSharpUptoRow, standIns := [], harness := (true, "d5983a9aa6b571c4b2995309dc6bd9fb9601bb370d8130d876cb1f606cecb1f5"), looks := false }, kinds := [], alts := [], laidByText := true, laidKinds := [.data], laidTests := true, laidLooks := .later }
def CoalesceSharpUptoCardSaid : Prop := Claim7.holds Tryd.pinned (.plain (OpenSpec.upto coalesceSharpSpec)) coalesceSharpUptoCard

/-- THE SECOND FORM's CARD OF 'warpwrightlaw22.CoalesceFewer'. -/
def coalesceFewerUptoCard : Claim7 := { stood := { row := coalesceFewerUptoRow, standIns := [], harness := (true, "d5983a9aa6b571c4b2995309dc6bd9fb9601bb370d8130d876cb1f606cecb1f5"), looks := false }, kinds := [], alts := [], laidByText := true, laidKinds := [.data], laidTests := true, laidLooks := .later }
def CoalesceFewerUptoCardSaid : Prop := Claim7.holds Tryd.pinned (.plain (OpenSpec.upto coalesceFewerSpec)) coalesceFewerUptoCard
end Rows
end Go.Proofs.YtghhmompjooecaaDoor
