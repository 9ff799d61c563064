/-
  DERIVED. GIVEN WITH THE SEED: THE CARDS: each row of YtmnkgecogbhbnaaDoorRows.lean that lists a variable, with what it lists TIED to the program's text (the seventh form; the later family's looks); each row that meets fmt, with fmt's text TOLD by the authors' own Lean function (tested against real Go, not proved from fmt's source: count such statements apart). THE CARD IS WHAT COUNTS. Prove the row's statement (the work); the ties are given (YtmnkgecogbhbnaaDoorTie.lean); close each card by the builder's one call (the guide's Derived/Test/ToyasCard.lean, 'card_holds'). Laid BY PROGRAM, IN A SANDBOX (cutbox-door.mjs). By AI agents, Wed Nov 11 2026. No macro, syntax, notation, axiom, sorry.
-/
import Derived.Test.YtmnkgecogbhbnaaDoorRows
import GoSem.ClaimSeven
namespace Go.Proofs.YtmnkgecogbhbnaaDoor
namespace Rows

/-- THE TIED CARD OF 'belvederelaw15.ParseErrors'. -/
def parseErrorsCard : Claim7 := { stood := { row := parseErrorsRow, standIns := [], harness := (true, "79933e28952857826f9a8cfe8fee357332febd1c6f2d134c53a2f6e39fa24493"), looks := true }, kinds := [], alts := [], laidByText := true, laidKinds := [.data, .data, .data, .sentinel, .sentinel, .sentinel, .sentinel, .sentinel, .sentinel, .sentinel, .sentinel, .sentinel, .sentinel, .sentinel, .sentinel, .sentinel, .listed, .data], laidTests := true, laidLooks := .later }
def ParseErrorsCardSaid : Prop := Claim7.holds Tryd.pinned (.plain (OpenSpec.ofChange parseErrorsSpec)) parseErrorsCard

/-- THE TIED CARD OF 'belvederelaw15.ParseDeep'. -/
def parseDeepCard : Claim7 := { stood := { row := parseDeepRow, standIns := [], harness := (true, "79933e28952857826f9a8cfe8fee357332febd1c6f2d134c53a2f6e39fa24493"), looks := true }, kinds := [], alts := [], laidByText := true, laidKinds := [.data, .data, .data, .sentinel, .sentinel, .sentinel, .sentinel, .sentinel, .sentinel, .sentinel, .sentinel, .sentinel, .sentinel, .sentinel, .sentinel, .sentinel, .listed, .data], laidTests := true, laidLooks := .later }
def ParseDeepCardSaid : Prop := Claim7.holds Tryd.pinned (.plain (OpenSpec.ofChange parseDeepSpec)) parseDeepCard

/-- THE TIED CARD OF 'belvederelaw15.ParseBinds'. -/
def parseBindsCard : Claim7 := { stood := { row := parseBindsRow, standIns := [], harness := (true, "79933e28952857826f9a8cfe8fee357332febd1c6f2d134c53a2f6e39fa24493"), looks := true }, kinds := [], alts := [], laidByText := true, laidKinds := [.data, .data, .data, .sentinel, .sentinel, .sentinel, .sentinel, .listed, .data], laidTests := true, laidLooks := .later }
def ParseBindsCardSaid : Prop := Claim7.holds Tryd.pinned (.plain (OpenSpec.ofChange parseBindsSpec)) parseBindsCard

/-- THE SECOND FORM's CARD OF 'belvederelaw15.ParseErrors'. -/
def parseErrorsUptoCard : Claim7 := { stood := { row := parseErrorsUptoRow, standIns := [], harness := (true, "79933e28952857826f9a8cfe8fee357332febd1c6f2d134c53a2f6e39fa24493"), looks := true }, kinds := [], alts := [], laidByText := true, laidKinds := [.data, .data, .data, .sentinel, .sentinel, .sentinel, .sentinel, .sentinel, .sentinel, .sentinel, .sentinel, .sentinel, .sentinel, .sentinel, .sentinel, .sentinel, .listed, .data], laidTests := true, laidLooks := .later }
def ParseErrorsUptoCardSaid : Prop := Claim7.holds Tryd.pinned (.plain (OpenSpec.upto parseErrorsSpec)) parseErrorsUptoCard

/-- THE SECOND FORM's CARD OF 'belvederelaw15.ParseDeep'. -/
def parseDeepUptoCard : Claim7 := { stood := { row := parseDeepUptoRow, standIns := [], harness := (true, "79933e28952857826f9a8cfe8fee357332febd1c6f2d134c53a2f6e39fa24493"), looks := true }, kinds := [], alts := [], laidByText := true, laidKinds := [.data, .data, .data, .sentinel, .sentinel, .sentinel, .sentinel, .sentinel, .sentinel, .sentinel, .sentinel, .sentinel, .sentinel, .sentinel, .sentinel, .sentinel, .listed, .data], laidTests := true, laidLooks := .later }
def ParseDeepUptoCardSaid : Prop := Claim7.holds Tryd.pinned (.plain (OpenSpec.upto parseDeepSpec)) parseDeepUptoCard

/-- THE SECOND FORM's CARD OF 'belvederelaw15.ParseBinds'. -/
def parseBindsUptoCard : Claim7 := { stood := { row := parseBindsUptoRow, standIns := [], harness := (true, "79933e28952857826f9a8cfe8fee357332febd1c6f2d134c53a2f6e39fa24493"), looks := true }, kinds := [], alts := [], laidByText := true, laidKinds := [.data, .data, .data, .sentinel, .sentinel, .sentinel, .sentinel, .listed, .data], laidTests := true, laidLooks := .later }
def ParseBindsUptoCardSaid : Prop := Claim7.holds Tryd.pinned (.plain (OpenSpec.upto parseBindsSpec)) parseBindsUptoCard
end Rows
end Go.Proofs.YtmnkgecogbhbnaaDoor
