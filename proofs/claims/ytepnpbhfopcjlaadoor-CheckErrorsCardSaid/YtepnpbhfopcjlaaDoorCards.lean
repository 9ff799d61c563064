/-
  DERIVED. GIVEN WITH THE SEED: THE CARDS: each row of YtepnpbhfopcjlaaDoorRows.lean that lists a variable, with what it lists TIED to the program's text (the seventh form; the later family's looks); each row that meets fmt, with fmt's text TOLD by the authors' own Lean function (tested against real Go, not proved from fmt's source: count such statements apart). THE CARD IS WHAT COUNTS. Prove the row's statement (the work); the ties are given (YtepnpbhfopcjlaaDoorTie.lean); close each card by the builder's one call (the guide's Derived/Test/ToyasCard.lean, 'card_holds'). Laid BY PROGRAM, IN A SANDBOX (cutbox-door.mjs). By AI agents, Wed Nov 11 2026. No macro, syntax, notation, axiom, sorry.
-/
import Derived.Test.YtepnpbhfopcjlaaDoorRows
import GoSem.ClaimSeven
namespace Go.Proofs.YtepnpbhfopcjlaaDoor
namespace Rows

/-- THE TIED CARD OF 'belvederelaw8.QuotaSteps'. -/
def quotaStepsCard : Claim7 := { stood := { row := quotaStepsRow, standIns := [], harness := (true, "69b7c689dd06827b1fd5c7ed6a35dc144edab576667a3f1c88769fcde8a8e30f"), looks := true }, kinds := [], alts := [], laidByText := true, laidKinds := [.sentinel], laidTests := true, laidLooks := .later }
def QuotaStepsCardSaid : Prop := Claim7.holds Tryd.pinned (.plain (OpenSpec.ofChange quotaStepsSpec)) quotaStepsCard

/-- THE TIED CARD OF 'belvederelaw8.QuotaPlays'. -/
def quotaPlaysCard : Claim7 := { stood := { row := quotaPlaysRow, standIns := [], harness := (true, "69b7c689dd06827b1fd5c7ed6a35dc144edab576667a3f1c88769fcde8a8e30f"), looks := true }, kinds := [], alts := [], laidByText := true, laidKinds := [.sentinel, .sentinel, .sentinel, .sentinel, .sentinel, .sentinel, .sentinel, .sentinel, .sentinel, .sentinel, .sentinel], laidTests := true, laidLooks := .later }
def QuotaPlaysCardSaid : Prop := Claim7.holds Tryd.pinned (.plain (OpenSpec.ofChange quotaPlaysSpec)) quotaPlaysCard

/-- THE TIED CARD OF 'belvederelaw8.QuotaWhole'. -/
def quotaWholeCard : Claim7 := { stood := { row := quotaWholeRow, standIns := [], harness := (true, "69b7c689dd06827b1fd5c7ed6a35dc144edab576667a3f1c88769fcde8a8e30f"), looks := true }, kinds := [], alts := [], laidByText := true, laidKinds := [.sentinel, .sentinel, .sentinel, .sentinel, .sentinel, .sentinel, .sentinel, .sentinel, .sentinel, .sentinel, .sentinel], laidTests := true, laidLooks := .later }
def QuotaWholeCardSaid : Prop := Claim7.holds Tryd.pinned (.plain (OpenSpec.ofChange quotaWholeSpec)) quotaWholeCard

/-- THE TIED CARD OF 'belvederelaw10.PredChecks'. -/
def predChecksCard : Claim7 := { stood := { row := predChecksRow, standIns := [], harness := (true, "69b7c689dd06827b1fd5c7ed6a35dc144edab576667a3f1c88769fcde8a8e30f"), looks := true }, kinds := [], alts := [], laidByText := true, laidKinds := [.sentinel, .sentinel, .sentinel, .sentinel, .sentinel, .sentinel, .sentinel, .sentinel, .sentinel, .sentinel, .sentinel], laidTests := true, laidLooks := .later }
def PredChecksCardSaid : Prop := Claim7.holds Tryd.pinned (.plain (OpenSpec.ofChange predChecksSpec)) predChecksCard

/-- THE TIED CARD OF 'belvederelaw18.CheckErrors'. -/
def checkErrorsCard : Claim7 := { stood := { row := checkErrorsRow, standIns := [], harness := (true, "69b7c689dd06827b1fd5c7ed6a35dc144edab576667a3f1c88769fcde8a8e30f"), looks := true }, kinds := [], alts := [], laidByText := true, laidKinds := [.sentinel, .sentinel, .sentinel, .sentinel, .sentinel, .sentinel, .sentinel, .sentinel, .sentinel, .sentinel, .sentinel, .listed, .data], laidTests := true, laidLooks := .later }
def CheckErrorsCardSaid : Prop := Claim7.holds Tryd.pinned (.plain (OpenSpec.ofChange checkErrorsSpec)) checkErrorsCard

/-- THE TIED CARD OF 'belvederelaw17.CatalogWrong'. -/
def catalogWrongCard : Claim7 := { stood := { row := catalogWrongRow, standIns := [], harness := (true, "69b7c689dd06827b1fd5c7ed6a35dc144edab576667a3f1c88769fcde8a8e30f"), looks := true }, kinds := [], alts := [], laidByText := true, laidKinds := [.sentinel, .sentinel, .sentinel, .sentinel, .sentinel, .sentinel, .sentinel, .sentinel, .sentinel, .sentinel, .sentinel, .listed, .data], laidTests := true, laidLooks := .later }
def CatalogWrongCardSaid : Prop := Claim7.holds Tryd.pinned (.plain (OpenSpec.ofChange catalogWrongSpec)) catalogWrongCard

/-- THE TIED CARD OF 'belvederelaw17.CatalogOrder'. -/
def catalogOrderCard : Claim7 := { stood := { row := catalogOrderRow, standIns := [], harness := (true, "69b7c689dd06827b1fd5c7ed6a35dc144edab576667a3f1c88769fcde8a8e30f"), looks := true }, kinds := [], alts := [], laidByText := true, laidKinds := [.sentinel, .sentinel, .sentinel, .sentinel, .sentinel, .sentinel, .listed, .data], laidTests := true, laidLooks := .later }
def CatalogOrderCardSaid : Prop := Claim7.holds Tryd.pinned (.plain (OpenSpec.ofChange catalogOrderSpec)) catalogOrderCard

/-- THE TIED CARD OF 'belvederelaw17.CatalogPlays'. -/
def catalogPlaysCard : Claim7 := { stood := { row := catalogPlaysRow, standIns := [], harness := (true, "69b7c689dd06827b1fd5c7ed6a35dc144edab576667a3f1c88769fcde8a8e30f"), looks := true }, kinds := [], alts := [], laidByText := true, laidKinds := [.sentinel, .sentinel, .sentinel, .sentinel, .sentinel, .sentinel, .sentinel, .sentinel, .sentinel, .sentinel, .sentinel, .listed, .data], laidTests := true, laidLooks := .later }
def CatalogPlaysCardSaid : Prop := Claim7.holds Tryd.pinned (.plain (OpenSpec.ofChange catalogPlaysSpec)) catalogPlaysCard

/-- THE TIED CARD OF 'belvederelaw17.CatalogMost'. -/
def catalogMostCard : Claim7 := { stood := { row := catalogMostRow, standIns := [], harness := (true, "69b7c689dd06827b1fd5c7ed6a35dc144edab576667a3f1c88769fcde8a8e30f"), looks := true }, kinds := [], alts := [], laidByText := true, laidKinds := [.sentinel, .sentinel, .sentinel, .sentinel, .sentinel, .sentinel, .sentinel, .sentinel, .sentinel, .sentinel, .sentinel, .listed, .data], laidTests := true, laidLooks := .later }
def CatalogMostCardSaid : Prop := Claim7.holds Tryd.pinned (.plain (OpenSpec.ofChange catalogMostSpec)) catalogMostCard

/-- THE SECOND FORM's CARD OF 'belvederelaw8.QuotaSteps'. -/
def quotaStepsUptoCard : Claim7 := { stood := { row := quotaStepsUptoRow, standIns := [], harness := (true, "69b7c689dd06827b1fd5c7ed6a35dc144edab576667a3f1c88769fcde8a8e30f"), looks := true }, kinds := [], alts := [], laidByText := true, laidKinds := [.sentinel], laidTests := true, laidLooks := .later }
def QuotaStepsUptoCardSaid : Prop := Claim7.holds Tryd.pinned (.plain (OpenSpec.upto quotaStepsSpec)) quotaStepsUptoCard

/-- THE SECOND FORM's CARD OF 'belvederelaw8.QuotaPlays'. -/
def quotaPlaysUptoCard : Claim7 := { stood := { row := quotaPlaysUptoRow, standIns := [], harness := (true, "69b7c689dd06827b1fd5c7ed6a35dc144edab576667a3f1c88769fcde8a8e30f"), looks := true }, kinds := [], alts := [], laidByText := true, laidKinds := [.sentinel, .sentinel, .sentinel, .sentinel, .sentinel, .sentinel, .sentinel, .sentinel, .sentinel, .sentinel, .sentinel], laidTests := true, laidLooks := .later }
def QuotaPlaysUptoCardSaid : Prop := Claim7.holds Tryd.pinned (.plain (OpenSpec.upto quotaPlaysSpec)) quotaPlaysUptoCard

/-- THE SECOND FORM's CARD OF 'belvederelaw8.QuotaWhole'. -/
def quotaWholeUptoCard : Claim7 := { stood := { row := quotaWholeUptoRow, standIns := [], harness := (true, "69b7c689dd06827b1fd5c7ed6a35dc144edab576667a3f1c88769fcde8a8e30f"), looks := true }, kinds := [], alts := [], laidByText := true, laidKinds := [.sentinel, .sentinel, .sentinel, .sentinel, .sentinel, .sentinel, .sentinel, .sentinel, .sentinel, .sentinel, .sentinel], laidTests := true, laidLooks := .later }
def QuotaWholeUptoCardSaid : Prop := Claim7.holds Tryd.pinned (.plain (OpenSpec.upto quotaWholeSpec)) quotaWholeUptoCard

/-- THE SECOND FORM's CARD OF 'belvederelaw10.PredChecks'. -/
def predChecksUptoCard : Claim7 := { stood := { row := predChecksUptoRow, standIns := [], harness := (true, "69b7c689dd06827b1fd5c7ed6a35dc144edab576667a3f1c88769fcde8a8e30f"), looks := true }, kinds := [], alts := [], laidByText := true, laidKinds := [.sentinel, .sentinel, .sentinel, .sentinel, .sentinel, .sentinel, .sentinel, .sentinel, .sentinel, .sentinel, .sentinel], laidTests := true, laidLooks := .later }
def PredChecksUptoCardSaid : Prop := Claim7.holds Tryd.pinned (.plain (OpenSpec.upto predChecksSpec)) predChecksUptoCard

/-- THE SECOND FORM's CARD OF 'belvederelaw18.CheckErrors'. -/
def checkErrorsUptoCard : Claim7 := { stood := { row := checkErrorsUptoRow, standIns := [], harness := (true, "69b7c689dd06827b1fd5c7ed6a35dc144edab576667a3f1c88769fcde8a8e30f"), looks := true }, kinds := [], alts := [], laidByText := true, laidKinds := [.sentinel, .sentinel, .sentinel, .sentinel, .sentinel, .sentinel, .sentinel, .sentinel, .sentinel, .sentinel, .sentinel, .listed, .data], laidTests := true, laidLooks := .later }
def CheckErrorsUptoCardSaid : Prop := Claim7.holds Tryd.pinned (.plain (OpenSpec.upto checkErrorsSpec)) checkErrorsUptoCard

/-- THE SECOND FORM's CARD OF 'belvederelaw17.CatalogWrong'. -/
def catalogWrongUptoCard : Claim7 := { stood := { row := catalogWrongUptoRow, standIns := [], harness := (true, "69b7c689dd06827b1fd5c7ed6a35dc144edab576667a3f1c88769fcde8a8e30f"), looks := true }, kinds := [], alts := [], laidByText := true, laidKinds := [.sentinel, .sentinel, .sentinel, .sentinel, .sentinel, .sentinel, .sentinel, .sentinel, .sentinel, .sentinel, .sentinel, .listed, .data], laidTests := true, laidLooks := .later }
def CatalogWrongUptoCardSaid : Prop := Claim7.holds Tryd.pinned (.plain (OpenSpec.upto catalogWrongSpec)) catalogWrongUptoCard

/-- THE SECOND FORM's CARD OF 'belvederelaw17.CatalogOrder'. -/
def catalogOrderUptoCard : Claim7 := { stood := { row := catalogOrderUptoRow, standIns := [], harness := (true, "69b7c689dd06827b1fd5c7ed6a35dc144edab576667a3f1c88769fcde8a8e30f"), looks := true }, kinds := [], alts := [], laidByText := true, laidKinds := [.sentinel, .sentinel, .sentinel, .sentinel, .sentinel, .sentinel, .listed, .data], laidTests := true, laidLooks := .later }
def CatalogOrderUptoCardSaid : Prop := Claim7.holds Tryd.pinned (.plain (OpenSpec.upto catalogOrderSpec)) catalogOrderUptoCard

/-- THE SECOND FORM's CARD OF 'belvederelaw17.CatalogPlays'. -/
def catalogPlaysUptoCard : Claim7 := { stood := { row := catalogPlaysUptoRow, standIns := [], harness := (true, "69b7c689dd06827b1fd5c7ed6a35dc144edab576667a3f1c88769fcde8a8e30f"), looks := true }, kinds := [], alts := [], laidByText := true, laidKinds := [.sentinel, .sentinel, .sentinel, .sentinel, .sentinel, .sentinel, .sentinel, .sentinel, .sentinel, .sentinel, .sentinel, .listed, .data], laidTests := true, laidLooks := .later }
def CatalogPlaysUptoCardSaid : Prop := Claim7.holds Tryd.pinned (.plain (OpenSpec.upto catalogPlaysSpec)) catalogPlaysUptoCard

/-- THE SECOND FORM's CARD OF 'belvederelaw17.CatalogMost'. -/
def catalogMostUptoCard : Claim7 := { stood := { row := catalogMostUptoRow, standIns := [], harness := (true, "69b7c689dd06827b1fd5c7ed6a35dc144edab576667a3f1c88769fcde8a8e30f"), looks := true }, kinds := [], alts := [], laidByText := true, laidKinds := [.sentinel, .sentinel, .sentinel, .sentinel, .sentinel, .sentinel, .sentinel, .sentinel, .sentinel, .sentinel, .sentinel, .listed, .data], laidTests := true, laidLooks := .later }
def CatalogMostUptoCardSaid : Prop := Claim7.holds Tryd.pinned (.plain (OpenSpec.upto catalogMostSpec)) catalogMostUptoCard
end Rows
end Go.Proofs.YtepnpbhfopcjlaaDoor
