/-
  DERIVED. GIVEN WITH THE SEED: THE CARDS: each row of YtjhbobacbaikoaaGreatDoorRows.lean that lists a variable, with what it lists TIED to the program's text (the seventh form; the later family's looks); each row that meets fmt, with fmt's text TOLD by the authors' own Lean function (tested against real Go, not proved from fmt's source: count such statements apart). THE CARD IS WHAT COUNTS. Prove the row's statement (the work); the ties are given (YtjhbobacbaikoaaGreatDoorTie.lean); close each card by the builder's one call (the guide's Derived/Test/ToyasCard.lean, 'card_holds'). Laid BY PROGRAM, IN A SANDBOX (cutbox-door.mjs). By AI agents, Wed Nov 11 2026. No macro, syntax, notation, axiom, sorry.
-/
import Derived.Test.YtjhbobacbaikoaaGreatDoorRows
import GoSem.ClaimSeven
namespace Go.Proofs.YtjhbobacbaikoaaGreatDoor
namespace Rows

/-- THE TIED CARD OF 'flagstonelaw6.ShapeExprs'. -/
def shapeExprsCard : Claim7 := { stood := { row := shapeExprsRow, standIns := [], harness := (true, "66e213712d22997a7a41ec7a6c87c8acc0bd920d4aeb7dad2988bade02550bf8"), looks := true }, kinds := [], alts := [], laidByText := true, laidKinds := [.data, .data, .data, .data, .data, .data, .widerDeep, .sentinel, .sentinel, .listed, .data, .pinned], laidTests := true, laidLooks := .later }
def ShapeExprsCardSaid : Prop := Claim7.holds Tryz.pinned (.plain (OpenSpec.ofChange shapeExprsSpec)) shapeExprsCard

/-- THE TIED CARD OF 'flagstonelaw6.ShapeSplits'. -/
def shapeSplitsCard : Claim7 := { stood := { row := shapeSplitsRow, standIns := [], harness := (true, "66e213712d22997a7a41ec7a6c87c8acc0bd920d4aeb7dad2988bade02550bf8"), looks := true }, kinds := [], alts := [], laidByText := true, laidKinds := [.data, .data, .data, .data, .data, .data, .widerDeep, .sentinel, .sentinel, .listed, .data, .pinned], laidTests := true, laidLooks := .later }
def ShapeSplitsCardSaid : Prop := Claim7.holds Tryz.pinned (.plain (OpenSpec.ofChange shapeSplitsSpec)) shapeSplitsCard

/-- THE TIED CARD OF 'flagstonelaw6.ShapeServes'. -/
def shapeServesCard : Claim7 := { stood := { row := shapeServesRow, standIns := [], harness := (true, "66e213712d22997a7a41ec7a6c87c8acc0bd920d4aeb7dad2988bade02550bf8"), looks := true }, kinds := [], alts := [], laidByText := true, laidKinds := [.data, .data, .data, .data, .data, .data, .widerDeep, .sentinel, .sentinel, .listed, .data, .pinned], laidTests := true, laidLooks := .later }
def ShapeServesCardSaid : Prop := Claim7.holds Tryz.pinned (.plain (OpenSpec.ofChange shapeServesSpec)) shapeServesCard

/-- THE TIED CARD OF 'flagstonelaw6.ShapeFlags'. -/
def shapeFlagsCard : Claim7 := { stood := { row := shapeFlagsRow, standIns := [], harness := (true, "66e213712d22997a7a41ec7a6c87c8acc0bd920d4aeb7dad2988bade02550bf8"), looks := true }, kinds := [], alts := [], laidByText := true, laidKinds := [.data, .data, .data, .data, .sentinel, .sentinel, .listed, .data, .pinned], laidTests := true, laidLooks := .later }
def ShapeFlagsCardSaid : Prop := Claim7.holds Tryz.pinned (.plain (OpenSpec.ofChange shapeFlagsSpec)) shapeFlagsCard

/-- THE TIED CARD OF 'flagstonelaw6.ShapeEnvironments'. -/
def shapeEnvironmentsCard : Claim7 := { stood := { row := shapeEnvironmentsRow, standIns := [], harness := (true, "66e213712d22997a7a41ec7a6c87c8acc0bd920d4aeb7dad2988bade02550bf8"), looks := true }, kinds := [], alts := [], laidByText := true, laidKinds := [.data, .data, .data, .data, .data, .data, .widerDeep, .sentinel, .sentinel, .listed, .data, .pinned], laidTests := true, laidLooks := .later }
def ShapeEnvironmentsCardSaid : Prop := Claim7.holds Tryz.pinned (.plain (OpenSpec.ofChange shapeEnvironmentsSpec)) shapeEnvironmentsCard

/-- THE TIED CARD OF 'flagstonelaw6.ShapeFronts'. -/
def shapeFrontsCard : Claim7 := { stood := { row := shapeFrontsRow, standIns := [], harness := (true, "66e213712d22997a7a41ec7a6c87c8acc0bd920d4aeb7dad2988bade02550bf8"), looks := true }, kinds := [], alts := [], laidByText := true, laidKinds := [.data, .data, .data, .data, .data, .data, .widerDeep, .sentinel, .sentinel, .listed, .data, .pinned], laidTests := true, laidLooks := .later }
def ShapeFrontsCardSaid : Prop := Claim7.holds Tryz.pinned (.plain (OpenSpec.ofChange shapeFrontsSpec)) shapeFrontsCard

/-- THE TIED CARD OF 'flagstonelaw6.ShapeParts'. -/
def shapePartsCard : Claim7 := { stood := { row := shapePartsRow, standIns := [], harness := (true, "66e213712d22997a7a41ec7a6c87c8acc0bd920d4aeb7dad2988bade02550bf8"), looks := true }, kinds := [], alts := [], laidByText := true, laidKinds := [.data, .data, .data, .data, .data, .data, .widerDeep, .sentinel, .sentinel, .listed, .data, .pinned], laidTests := true, laidLooks := .later }
def ShapePartsCardSaid : Prop := Claim7.holds Tryz.pinned (.plain (OpenSpec.ofChange shapePartsSpec)) shapePartsCard

/-- THE SECOND FORM's CARD OF 'flagstonelaw6.ShapeExprs'. -/
def shapeExprsUptoCard : Claim7 := { stood := { row := shapeExprsUptoRow, standIns := [], harness := (true, "66e213712d22997a7a41ec7a6c87c8acc0bd920d4aeb7dad2988bade02550bf8"), looks := true }, kinds := [], alts := [], laidByText := true, laidKinds := [.data, .data, .data, .data, .data, .data, .widerDeep, .sentinel, .sentinel, .listed, .data, .pinned], laidTests := true, laidLooks := .later }
def ShapeExprsUptoCardSaid : Prop := Claim7.holds Tryz.pinned (.plain (OpenSpec.upto shapeExprsSpec)) shapeExprsUptoCard

/-- THE SECOND FORM's CARD OF 'flagstonelaw6.ShapeSplits'. -/
def shapeSplitsUptoCard : Claim7 := { stood := { row := shapeSplitsUptoRow, standIns := [], harness := (true, "66e213712d22997a7a41ec7a6c87c8acc0bd920d4aeb7dad2988bade02550bf8"), looks := true }, kinds := [], alts := [], laidByText := true, laidKinds := [.data, .data, .data, .data, .data, .data, .widerDeep, .sentinel, .sentinel, .listed, .data, .pinned], laidTests := true, laidLooks := .later }
def ShapeSplitsUptoCardSaid : Prop := Claim7.holds Tryz.pinned (.plain (OpenSpec.upto shapeSplitsSpec)) shapeSplitsUptoCard

/-- THE SECOND FORM's CARD OF 'flagstonelaw6.ShapeServes'. -/
def shapeServesUptoCard : Claim7 := { stood := { row := shapeServesUptoRow, standIns := [], harness := (true, "66e213712d22997a7a41ec7a6c87c8acc0bd920d4aeb7dad2988bade02550bf8"), looks := true }, kinds := [], alts := [], laidByText := true, laidKinds := [.data, .data, .data, .data, .data, .data, .widerDeep, .sentinel, .sentinel, .listed, .data, .pinned], laidTests := true, laidLooks := .later }
def ShapeServesUptoCardSaid : Prop := Claim7.holds Tryz.pinned (.plain (OpenSpec.upto shapeServesSpec)) shapeServesUptoCard

/-- THE SECOND FORM's CARD OF 'flagstonelaw6.ShapeFlags'. -/
def shapeFlagsUptoCard : Claim7 := { stood := { row := shapeFlagsUptoRow, standIns := [], harness := (true, "66e213712d22997a7a41ec7a6c87c8acc0bd920d4aeb7dad2988bade02550bf8"), looks := true }, kinds := [], alts := [], laidByText := true, laidKinds := [.data, .data, .data, .data, .sentinel, .sentinel, .listed, .data, .pinned], laidTests := true, laidLooks := .later }
def ShapeFlagsUptoCardSaid : Prop := Claim7.holds Tryz.pinned (.plain (OpenSpec.upto shapeFlagsSpec)) shapeFlagsUptoCard

/-- THE SECOND FORM's CARD OF 'flagstonelaw6.ShapeEnvironments'. -/
def shapeEnvironmentsUptoCard : Claim7 := { stood := { row := shapeEnvironmentsUptoRow, standIns := [], harness := (true, "66e213712d22997a7a41ec7a6c87c8acc0bd920d4aeb7dad2988bade02550bf8"), looks := true }, kinds := [], alts := [], laidByText := true, laidKinds := [.data, .data, .data, .data, .data, .data, .widerDeep, .sentinel, .sentinel, .listed, .data, .pinned], laidTests := true, laidLooks := .later }
def ShapeEnvironmentsUptoCardSaid : Prop := Claim7.holds Tryz.pinned (.plain (OpenSpec.upto shapeEnvironmentsSpec)) shapeEnvironmentsUptoCard

/-- THE SECOND FORM's CARD OF 'flagstonelaw6.ShapeFronts'. -/
def shapeFrontsUptoCard : Claim7 := { stood := { row := shapeFrontsUptoRow, standIns := [], harness := (true, "66e213712d22997a7a41ec7a6c87c8acc0bd920d4aeb7dad2988bade02550bf8"), looks := true }, kinds := [], alts := [], laidByText := true, laidKinds := [.data, .data, .data, .data, .data, .data, .widerDeep, .sentinel, .sentinel, .listed, .data, .pinned], laidTests := true, laidLooks := .later }
def ShapeFrontsUptoCardSaid : Prop := Claim7.holds Tryz.pinned (.plain (OpenSpec.upto shapeFrontsSpec)) shapeFrontsUptoCard

/-- THE SECOND FORM's CARD OF 'flagstonelaw6.ShapeParts'. -/
def shapePartsUptoCard : Claim7 := { stood := { row := shapePartsUptoRow, standIns := [], harness := (true, "66e213712d22997a7a41ec7a6c87c8acc0bd920d4aeb7dad2988bade02550bf8"), looks := true }, kinds := [], alts := [], laidByText := true, laidKinds := [.data, .data, .data, .data, .data, .data, .widerDeep, .sentinel, .sentinel, .listed, .data, .pinned], laidTests := true, laidLooks := .later }
def ShapePartsUptoCardSaid : Prop := Claim7.holds Tryz.pinned (.plain (OpenSpec.upto shapePartsSpec)) shapePartsUptoCard
end Rows
end Go.Proofs.YtjhbobacbaikoaaGreatDoor
