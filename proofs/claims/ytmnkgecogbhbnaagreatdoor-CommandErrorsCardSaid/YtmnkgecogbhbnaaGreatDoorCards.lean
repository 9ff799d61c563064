/-
  DERIVED. GIVEN WITH THE SEED: THE CARDS: each row of YtmnkgecogbhbnaaGreatDoorRows.lean that lists a variable, with what it lists TIED to the program's text (the seventh form; the later family's looks); each row that meets fmt, with fmt's text TOLD by the authors' own Lean function (tested against real Go, not proved from fmt's source: count such statements apart). THE CARD IS WHAT COUNTS. Prove the row's statement (the work); the ties are given (YtmnkgecogbhbnaaGreatDoorTie.lean); close each card by the builder's one call (the guide's Derived/Test/ToyasCard.lean, 'card_holds'). Laid BY PROGRAM, IN A SANDBOX (cutbox-door.mjs). By AI agents, Wed Nov 11 2026. No macro, syntax, notation, axiom, sorry.
-/
import Derived.Test.YtmnkgecogbhbnaaGreatDoorRows
import GoSem.ClaimSeven
namespace Go.Proofs.YtmnkgecogbhbnaaGreatDoor
namespace Rows

/-- THE TIED CARD OF 'belvederelaw15.ParseSpaces'. -/
def parseSpacesCard : Claim7 := { stood := { row := parseSpacesRow, standIns := [], harness := (true, "09c3a93c690c46c7f0b7b4bd672dbb7b19349503b467ce53f3cded5963104278"), looks := true }, kinds := [], alts := [], laidByText := true, laidKinds := [.data, .data, .data, .sentinel, .sentinel, .sentinel, .sentinel, .listed, .data], laidTests := true, laidLooks := .later }
def ParseSpacesCardSaid : Prop := Claim7.holds Tryz.pinned (.plain (OpenSpec.ofChange parseSpacesSpec)) parseSpacesCard

/-- THE TIED CARD OF 'belvederelaw27.CommandErrors'. -/
def commandErrorsCard : Claim7 := { stood := { row := commandErrorsRow, standIns := [], harness := (true, "09c3a93c690c46c7f0b7b4bd672dbb7b19349503b467ce53f3cded5963104278"), looks := true }, kinds := [], alts := [], laidByText := true, laidKinds := [.data, .data, .data, .sentinel, .sentinel, .sentinel, .sentinel, .sentinel, .sentinel, .sentinel, .sentinel, .sentinel, .sentinel, .sentinel, .sentinel, .sentinel, .listed, .data], laidTests := true, laidLooks := .later }
def CommandErrorsCardSaid : Prop := Claim7.holds Tryz.pinned (.plain (OpenSpec.ofChange commandErrorsSpec)) commandErrorsCard

/-- THE TIED CARD OF 'belvederelaw27.CommandMost'. -/
def commandMostCard : Claim7 := { stood := { row := commandMostRow, standIns := [], harness := (true, "09c3a93c690c46c7f0b7b4bd672dbb7b19349503b467ce53f3cded5963104278"), looks := true }, kinds := [], alts := [], laidByText := true, laidKinds := [.data, .data, .data, .sentinel, .sentinel, .sentinel, .sentinel, .sentinel, .sentinel, .sentinel, .sentinel, .sentinel, .sentinel, .sentinel, .sentinel, .sentinel, .listed, .data], laidTests := true, laidLooks := .later }
def CommandMostCardSaid : Prop := Claim7.holds Tryz.pinned (.plain (OpenSpec.ofChange commandMostSpec)) commandMostCard

/-- THE SECOND FORM's CARD OF 'belvederelaw15.ParseSpaces'. -/
def parseSpacesUptoCard : Claim7 := { stood := { row := parseSpacesUptoRow, standIns := [], harness := (true, "09c3a93c690c46c7f0b7b4bd672dbb7b19349503b467ce53f3cded5963104278"), looks := true }, kinds := [], alts := [], laidByText := true, laidKinds := [.data, .data, .data, .sentinel, .sentinel, .sentinel, .sentinel, .listed, .data], laidTests := true, laidLooks := .later }
def ParseSpacesUptoCardSaid : Prop := Claim7.holds Tryz.pinned (.plain (OpenSpec.upto parseSpacesSpec)) parseSpacesUptoCard

/-- THE SECOND FORM's CARD OF 'belvederelaw27.CommandErrors'. -/
def commandErrorsUptoCard : Claim7 := { stood := { row := commandErrorsUptoRow, standIns := [], harness := (true, "09c3a93c690c46c7f0b7b4bd672dbb7b19349503b467ce53f3cded5963104278"), looks := true }, kinds := [], alts := [], laidByText := true, laidKinds := [.data, .data, .data, .sentinel, .sentinel, .sentinel, .sentinel, .sentinel, .sentinel, .sentinel, .sentinel, .sentinel, .sentinel, .sentinel, .sentinel, .sentinel, .listed, .data], laidTests := true, laidLooks := .later }
def CommandErrorsUptoCardSaid : Prop := Claim7.holds Tryz.pinned (.plain (OpenSpec.upto commandErrorsSpec)) commandErrorsUptoCard

/-- THE SECOND FORM's CARD OF 'belvederelaw27.CommandMost'. -/
def commandMostUptoCard : Claim7 := { stood := { row := commandMostUptoRow, standIns := [], harness := (true, "09c3a93c690c46c7f0b7b4bd672dbb7b19349503b467ce53f3cded5963104278"), looks := true }, kinds := [], alts := [], laidByText := true, laidKinds := [.data, .data, .data, .sentinel, .sentinel, .sentinel, .sentinel, .sentinel, .sentinel, .sentinel, .sentinel, .sentinel, .sentinel, .sentinel, .sentinel, .sentinel, .listed, .data], laidTests := true, laidLooks := .later }
def CommandMostUptoCardSaid : Prop := Claim7.holds Tryz.pinned (.plain (OpenSpec.upto commandMostSpec)) commandMostUptoCard
end Rows
end Go.Proofs.YtmnkgecogbhbnaaGreatDoor
