/-
  NARROWER THAN 'FOR EVERY INPUT', by the rows' own cells (each row's printed sentence says how): QuotaSteps: laid · QuotaPlays: laid · QuotaWhole: laid · PredChecks: laid · CheckErrors: laid · CatalogWrong: laid · CatalogOrder: laid · CatalogPlays: laid · CatalogMost: laid.
  DERIVED. THE GIVEN ROWS OF THIS SEAT. 9 by the template 'for every input the law returns true; each argument reads behind the call as it read before'; 0 by the template 'total and deterministic' (their statements: YtepnpbhfopcjlaaDoorTotals.lean).
  GIVEN WITH THE SEED: the statements are not yours to turn. If you find one false, say at which input.
  Laid BY PROGRAM, IN A SANDBOX (cutbox-rows.mjs): the forced cells as the released guide's own fill.sh prints them over the translation d6e375f71d5655e2… (all of the seat's roots in one cut). By AI agents, Wed Nov 11 2026. No macro, syntax, notation, axiom, sorry.
-/
import Derived.Test.YtepnpbhfopcjlaaDoorChecked
import GoSem.Claim
import GoSem.ClaimJoined
import GoSem.ClaimMapViews
import Derived.JoinedTies
import Derived.KernelRfl
namespace Go.Proofs.YtepnpbhfopcjlaaDoor
/- THE CELL 'sum', in the pinned program and in every row, IS THE sha256 OF THE DUMP (.gsa) THAT YtepnpbhfopcjlaaDoorProg.lean LOADS. Nothing in Lean hashes anything: it is a label: what it is worth is what the hold of that sum in a sandbox is worth. -/
noncomputable def Tryd.pinned : Pinned := { name := "ytepnpbhfopcjlaadoor", sum := "d6e375f71d5655e2bb134438ac018bfc12c24be8d8c67f0fa82e810894f3831e", checked := Tryd.checked }
namespace Rows
def none {H : Type} : Left H := { results := [], args := [] }

/- WHAT THE LISTED PACKAGE-LEVEL VARIABLES READ AS WHEN THE CALL BEGINS. Each datum BY PROGRAM (the guide's laid-datum.mjs) off the statement by which the dump's own 'gosem.cut.vars' lays the variable. In a bare row this is a premise. The card (YtepnpbhfopcjlaaDoorCards.lean) ties it to the program's text. -/
def laid_belvedere_api_ErrFull {H : Type} : DataW H := .iface "*errors.errorString" (.ptr (.agg [.lit (.string [109, 111, 114, 101, 32, 114, 111, 119, 115, 32, 116, 104, 97, 110, 32, 109, 97, 121, 32, 98, 101])]))
def laid_belvedere_api_ErrText {H : Type} : DataW H := .iface "*errors.errorString" (.ptr (.agg [.lit (.string [110, 111, 116, 32, 97, 115, 32, 105, 116, 32, 105, 115, 32, 119, 114, 105, 116, 116, 101, 110])]))
def laid_belvedere_api_ErrType {H : Type} : DataW H := .iface "*errors.errorString" (.ptr (.agg [.lit (.string [116, 121, 112, 101, 115, 32, 116, 104, 97, 116, 32, 100, 111, 32, 110, 111, 116, 32, 102, 105, 116])]))
def laid_belvedere_api_ErrName {H : Type} : DataW H := .iface "*errors.errorString" (.ptr (.agg [.lit (.string [97, 32, 110, 97, 109, 101, 32, 116, 104, 97, 116, 32, 105, 115, 32, 110, 111, 98, 111, 100, 121, 39, 115])]))
def laid_belvedere_api_ErrTwice {H : Type} : DataW H := .iface "*errors.errorString" (.ptr (.agg [.lit (.string [97, 32, 110, 97, 109, 101, 32, 116, 119, 105, 99, 101])]))
def laid_belvedere_api_ErrUse {H : Type} : DataW H := .iface "*errors.errorString" (.ptr (.agg [.lit (.string [97, 32, 116, 97, 98, 108, 101, 32, 116, 104, 97, 116, 32, 105, 115, 32, 117, 115, 101, 100])]))
def laid_belvedere_api_ErrArity {H : Type} : DataW H := .iface "*errors.errorString" (.ptr (.agg [.lit (.string [99, 111, 108, 117, 109, 110, 115, 32, 116, 104, 97, 116, 32, 97, 114, 101, 32, 116, 111, 111, 32, 109, 97, 110, 121, 44, 32, 111, 114, 32, 116, 111, 111, 32, 102, 101, 119])]))
def laid_belvedere_api_ErrOver {H : Type} : DataW H := .iface "*errors.errorString" (.ptr (.agg [.lit (.string [97, 32, 110, 117, 109, 98, 101, 114, 32, 98, 101, 121, 111, 110, 100, 32, 105, 116, 115, 32, 98, 111, 117, 110, 100, 115])]))
def laid_belvedere_api_ErrPending {H : Type} : DataW H := .iface "*errors.errorString" (.ptr (.agg [.lit (.string [97, 32, 109, 105, 103, 114, 97, 116, 105, 111, 110, 32, 105, 115, 32, 117, 110, 100, 101, 114, 32, 119, 97, 121])]))
def laid_belvedere_api_ErrNone {H : Type} : DataW H := .iface "*errors.errorString" (.ptr (.agg [.lit (.string [110, 111, 32, 109, 105, 103, 114, 97, 116, 105, 111, 110, 32, 105, 115, 32, 117, 110, 100, 101, 114, 32, 119, 97, 121])]))
def laid_belvedere_api_ErrLimit {H : Type} : DataW H := .iface "*errors.errorString" (.ptr (.agg [.lit (.string [109, 111, 114, 101, 32, 116, 104, 97, 110, 32, 109, 97, 121, 32, 98, 101])]))
def laid_unicode_White_Space {H : Type} : DataW H := .ptr (.agg [.slice [.agg [.lit (.int .u16 9), .lit (.int .u16 13), .lit (.int .u16 1)], .agg [.lit (.int .u16 32), .lit (.int .u16 133), .lit (.int .u16 101)], .agg [.lit (.int .u16 160), .lit (.int .u16 5760), .lit (.int .u16 5600)], .agg [.lit (.int .u16 8192), .lit (.int .u16 8202), .lit (.int .u16 1)], .agg [.lit (.int .u16 8232), .lit (.int .u16 8233), .lit (.int .u16 1)], .agg [.lit (.int .u16 8239), .lit (.int .u16 8287), .lit (.int .u16 48)], .agg [.lit (.int .u16 12288), .lit (.int .u16 12288), .lit (.int .u16 1)]] [], .nil, .lit (.int .i64 2)])
def laid_strings_asciiSpace {H : Type} : DataW H := .agg [.lit (.int .u8 0), .lit (.int .u8 0), .lit (.int .u8 0), .lit (.int .u8 0), .lit (.int .u8 0), .lit (.int .u8 0), .lit (.int .u8 0), .lit (.int .u8 0), .lit (.int .u8 0), .lit (.int .u8 1), .lit (.int .u8 1), .lit (.int .u8 1), .lit (.int .u8 1), .lit (.int .u8 1), .lit (.int .u8 0), .lit (.int .u8 0), .lit (.int .u8 0), .lit (.int .u8 0), .lit (.int .u8 0), .lit (.int .u8 0), .lit (.int .u8 0), .lit (.int .u8 0), .lit (.int .u8 0), .lit (.int .u8 0), .lit (.int .u8 0), .lit (.int .u8 0), .lit (.int .u8 0), .lit (.int .u8 0), .lit (.int .u8 0), .lit (.int .u8 0), .lit (.int .u8 0), .lit (.int .u8 0), .lit (.int .u8 1), .lit (.int .u8 0), .lit (.int .u8 0), .lit (.int .u8 0), .lit (.int .u8 0), .lit (.int .u8 0), .lit (.int .u8 0), .lit (.int .u8 0), .lit (.int .u8 0), .lit (.int .u8 0), .lit (.int .u8 0), .lit (.int .u8 0), .lit (.int .u8 0), .lit (.int .u8 0), .lit (.int .u8 0), .lit (.int .u8 0), .lit (.int .u8 0), .lit (.int .u8 0), .lit (.int .u8 0), .lit (.int .u8 0), .lit (.int .u8 0), .lit (.int .u8 0), .lit (.int .u8 0), .lit (.int .u8 0), .lit (.int .u8 0), .lit (.int .u8 0), .lit (.int .u8 0), .lit (.int .u8 0), .lit (.int .u8 0), .lit (.int .u8 0), .lit (.int .u8 0), .lit (.int .u8 0), .lit (.int .u8 0), .lit (.int .u8 0), .lit (.int .u8 0), .lit (.int .u8 0), .lit (.int .u8 0), .lit (.int .u8 0), .lit (.int .u8 0), .lit (.int .u8 0), .lit (.int .u8 0), .lit (.int .u8 0), .lit (.int .u8 0), .lit (.int .u8 0), .lit (.int .u8 0), .lit (.int .u8 0), .lit (.int .u8 0), .lit (.int .u8 0), .lit (.int .u8 0), .lit (.int .u8 0), .lit (.int .u8 0), .lit (.int .u8 0), .lit (.int .u8 0), .lit (.int .u8 0), .lit (.int .u8 0), .lit (.int .u8 0), .lit (.int .u8 0), .lit (.int .u8 0), .lit (.int .u8 0), .lit (.int .u8 0), .lit (.int .u8 0), .lit (.int .u8 0), .lit (.int .u8 0), .lit (.int .u8 0), .lit (.int .u8 0), .lit (.int .u8 0), .lit (.int .u8 0), .lit (.int .u8 0), .lit (.int .u8 0), .lit (.int .u8 0), .lit (.int .u8 0), .lit (.int .u8 0), .lit (.int .u8 0), .lit (.int .u8 0), .lit (.int .u8 0), .lit (.int .u8 0), .lit (.int .u8 0), .lit (.int .u8 0), .lit (.int .u8 0), .lit (.int .u8 0), .lit (.int .u8 0), .lit (.int .u8 0), .lit (.int .u8 0), .lit (.int .u8 0), .lit (.int .u8 0), .lit (.int .u8 0), .lit (.int .u8 0), .lit (.int .u8 0), .lit (.int .u8 0), .lit (.int .u8 0), .lit (.int .u8 0), .lit (.int .u8 0), .lit (.int .u8 0), .lit (.int .u8 0), .lit (.int .u8 0), .lit (.int .u8 0), .lit (.int .u8 0), .lit (.int .u8 0), .lit (.int .u8 0), .lit (.int .u8 0), .lit (.int .u8 0), .lit (.int .u8 0), .lit (.int .u8 0), .lit (.int .u8 0), .lit (.int .u8 0), .lit (.int .u8 0), .lit (.int .u8 0), .lit (.int .u8 0), .lit (.int .u8 0), .lit (.int .u8 0), .lit (.int .u8 0), .lit (.int .u8 0), .lit (.int .u8 0), .lit (.int .u8 0), .lit (.int .u8 0), .lit (.int .u8 0), .lit (.int .u8 0), .lit (.int .u8 0), .lit (.int .u8 0), .lit (.int .u8 0), .lit (.int .u8 0), .lit (.int .u8 0), .lit (.int .u8 0), .lit (.int .u8 0), .lit (.int .u8 0), .lit (.int .u8 0), .lit (.int .u8 0), .lit (.int .u8 0), .lit (.int .u8 0), .lit (.int .u8 0), .lit (.int .u8 0), .lit (.int .u8 0), .lit (.int .u8 0), .lit (.int .u8 0), .lit (.int .u8 0), .lit (.int .u8 0), .lit (.int .u8 0), .lit (.int .u8 0), .lit (.int .u8 0), .lit (.int .u8 0), .lit (.int .u8 0), .lit (.int .u8 0), .lit (.int .u8 0), .lit (.int .u8 0), .lit (.int .u8 0), .lit (.int .u8 0), .lit (.int .u8 0), .lit (.int .u8 0), .lit (.int .u8 0), .lit (.int .u8 0), .lit (.int .u8 0), .lit (.int .u8 0), .lit (.int .u8 0), .lit (.int .u8 0), .lit (.int .u8 0), .lit (.int .u8 0), .lit (.int .u8 0), .lit (.int .u8 0), .lit (.int .u8 0), .lit (.int .u8 0), .lit (.int .u8 0), .lit (.int .u8 0), .lit (.int .u8 0), .lit (.int .u8 0), .lit (.int .u8 0), .lit (.int .u8 0), .lit (.int .u8 0), .lit (.int .u8 0), .lit (.int .u8 0), .lit (.int .u8 0), .lit (.int .u8 0), .lit (.int .u8 0), .lit (.int .u8 0), .lit (.int .u8 0), .lit (.int .u8 0), .lit (.int .u8 0), .lit (.int .u8 0), .lit (.int .u8 0), .lit (.int .u8 0), .lit (.int .u8 0), .lit (.int .u8 0), .lit (.int .u8 0), .lit (.int .u8 0), .lit (.int .u8 0), .lit (.int .u8 0), .lit (.int .u8 0), .lit (.int .u8 0), .lit (.int .u8 0), .lit (.int .u8 0), .lit (.int .u8 0), .lit (.int .u8 0), .lit (.int .u8 0), .lit (.int .u8 0), .lit (.int .u8 0), .lit (.int .u8 0), .lit (.int .u8 0), .lit (.int .u8 0), .lit (.int .u8 0), .lit (.int .u8 0), .lit (.int .u8 0), .lit (.int .u8 0), .lit (.int .u8 0), .lit (.int .u8 0), .lit (.int .u8 0), .lit (.int .u8 0), .lit (.int .u8 0), .lit (.int .u8 0), .lit (.int .u8 0), .lit (.int .u8 0), .lit (.int .u8 0), .lit (.int .u8 0), .lit (.int .u8 0), .lit (.int .u8 0), .lit (.int .u8 0), .lit (.int .u8 0), .lit (.int .u8 0), .lit (.int .u8 0), .lit (.int .u8 0), .lit (.int .u8 0), .lit (.int .u8 0), .lit (.int .u8 0), .lit (.int .u8 0), .lit (.int .u8 0), .lit (.int .u8 0)]

/-- 'belvederelaw8.QuotaSteps': WHATEVER THE INPUT: true; the input reads as it did. -/
def quotaStepsSpec : ChangeSpec := { name := "quotaSteps", fn := fun _ => fun
  | [d1, d2] => { results := [.lit (.bool true)], args := [d1, d2] }
  | _ => none }
def quotaStepsRow : OpenClaim := { program := "ytepnpbhfopcjlaadoor", sum := "d6e375f71d5655e2bb134438ac018bfc12c24be8d8c67f0fa82e810894f3831e", func := "belvedere/belvederelaw8.QuotaSteps", spec := "quotaSteps", named := ["belvedere/api.ErrFull"], apart := false, laid := [("belvedere/api.ErrFull", laid_belvedere_api_ErrFull)] }
def QuotaStepsSaid : Prop := quotaStepsRow.holds Tryd.pinned (OpenSpec.ofChange quotaStepsSpec)

/-- ITS FALSE NEIGHBOUR: 'it returns false'. Refute it at one input. -/
def quotaStepsWrong : ChangeSpec := { name := "quotaSteps", fn := fun _ => fun
  | [d1, d2] => { results := [.lit (.bool false)], args := [d1, d2] }
  | _ => none }
def QuotaStepsWrongFalsely : Prop := quotaStepsRow.holds Tryd.pinned (OpenSpec.ofChange quotaStepsWrong)

/-- 'belvederelaw8.QuotaPlays': WHATEVER THE INPUT: true; the input reads as it did. -/
def quotaPlaysSpec : ChangeSpec := { name := "quotaPlays", fn := fun _ => fun
  | [d1, d2] => { results := [.lit (.bool true)], args := [d1, d2] }
  | _ => none }
def quotaPlaysRow : OpenClaim := { program := "ytepnpbhfopcjlaadoor", sum := "d6e375f71d5655e2bb134438ac018bfc12c24be8d8c67f0fa82e810894f3831e", func := "belvedere/belvederelaw8.QuotaPlays", spec := "quotaPlays", named := ["belvedere/api.ErrFull", "belvedere/api.ErrText", "belvedere/api.ErrType", "belvedere/api.ErrName", "belvedere/api.ErrTwice", "belvedere/api.ErrUse", "belvedere/api.ErrArity", "belvedere/api.ErrOver", "belvedere/api.ErrPending", "belvedere/api.ErrNone", "belvedere/api.ErrLimit"], apart := false, laid := [("belvedere/api.ErrText", laid_belvedere_api_ErrText), ("belvedere/api.ErrType", laid_belvedere_api_ErrType), ("belvedere/api.ErrName", laid_belvedere_api_ErrName), ("belvedere/api.ErrTwice", laid_belvedere_api_ErrTwice), ("belvedere/api.ErrUse", laid_belvedere_api_ErrUse), ("belvedere/api.ErrArity", laid_belvedere_api_ErrArity), ("belvedere/api.ErrOver", laid_belvedere_api_ErrOver), ("belvedere/api.ErrFull", laid_belvedere_api_ErrFull), ("belvedere/api.ErrPending", laid_belvedere_api_ErrPending), ("belvedere/api.ErrNone", laid_belvedere_api_ErrNone), ("belvedere/api.ErrLimit", laid_belvedere_api_ErrLimit)] }
def QuotaPlaysSaid : Prop := quotaPlaysRow.holds Tryd.pinned (OpenSpec.ofChange quotaPlaysSpec)

/-- ITS FALSE NEIGHBOUR: 'it returns false'. Refute it at one input. -/
def quotaPlaysWrong : ChangeSpec := { name := "quotaPlays", fn := fun _ => fun
  | [d1, d2] => { results := [.lit (.bool false)], args := [d1, d2] }
  | _ => none }
def QuotaPlaysWrongFalsely : Prop := quotaPlaysRow.holds Tryd.pinned (OpenSpec.ofChange quotaPlaysWrong)

/-- 'belvederelaw8.QuotaWhole': WHATEVER THE INPUT: true; the input reads as it did. -/
def quotaWholeSpec : ChangeSpec := { name := "quotaWhole", fn := fun _ => fun
  | [d1, d2, d3] => { results := [.lit (.bool true)], args := [d1, d2, d3] }
  | _ => none }
def quotaWholeRow : OpenClaim := { program := "ytepnpbhfopcjlaadoor", sum := "d6e375f71d5655e2bb134438ac018bfc12c24be8d8c67f0fa82e810894f3831e", func := "belvedere/belvederelaw8.QuotaWhole", spec := "quotaWhole", named := ["belvedere/api.ErrFull", "belvedere/api.ErrText", "belvedere/api.ErrType", "belvedere/api.ErrName", "belvedere/api.ErrTwice", "belvedere/api.ErrUse", "belvedere/api.ErrArity", "belvedere/api.ErrOver", "belvedere/api.ErrPending", "belvedere/api.ErrNone", "belvedere/api.ErrLimit"], apart := false, laid := [("belvedere/api.ErrText", laid_belvedere_api_ErrText), ("belvedere/api.ErrType", laid_belvedere_api_ErrType), ("belvedere/api.ErrName", laid_belvedere_api_ErrName), ("belvedere/api.ErrTwice", laid_belvedere_api_ErrTwice), ("belvedere/api.ErrUse", laid_belvedere_api_ErrUse), ("belvedere/api.ErrArity", laid_belvedere_api_ErrArity), ("belvedere/api.ErrOver", laid_belvedere_api_ErrOver), ("belvedere/api.ErrFull", laid_belvedere_api_ErrFull), ("belvedere/api.ErrPending", laid_belvedere_api_ErrPending), ("belvedere/api.ErrNone", laid_belvedere_api_ErrNone), ("belvedere/api.ErrLimit", laid_belvedere_api_ErrLimit)] }
def QuotaWholeSaid : Prop := quotaWholeRow.holds Tryd.pinned (OpenSpec.ofChange quotaWholeSpec)

/-- ITS FALSE NEIGHBOUR: 'it returns false'. Refute it at one input. -/
def quotaWholeWrong : ChangeSpec := { name := "quotaWhole", fn := fun _ => fun
  | [d1, d2, d3] => { results := [.lit (.bool false)], args := [d1, d2, d3] }
  | _ => none }
def QuotaWholeWrongFalsely : Prop := quotaWholeRow.holds Tryd.pinned (OpenSpec.ofChange quotaWholeWrong)

/-- 'belvederelaw10.PredChecks': WHATEVER THE INPUT: true; the input reads as it did. -/
def predChecksSpec : ChangeSpec := { name := "predChecks", fn := fun _ => fun
  | [d] => { results := [.lit (.bool true)], args := [d] }
  | _ => none }
def predChecksRow : OpenClaim := { program := "ytepnpbhfopcjlaadoor", sum := "d6e375f71d5655e2bb134438ac018bfc12c24be8d8c67f0fa82e810894f3831e", func := "belvedere/belvederelaw10.PredChecks", spec := "predChecks", inPlace := ["internal/bytealg.abigen_runtime_cmpstring"], unfollowed := true, recurses := true, named := ["belvedere/api.ErrArity", "belvedere/api.ErrType", "belvedere/api.ErrText", "belvedere/api.ErrName", "belvedere/api.ErrTwice", "belvedere/api.ErrUse", "belvedere/api.ErrOver", "belvedere/api.ErrFull", "belvedere/api.ErrPending", "belvedere/api.ErrNone", "belvedere/api.ErrLimit"], apart := false, laid := [("belvedere/api.ErrText", laid_belvedere_api_ErrText), ("belvedere/api.ErrType", laid_belvedere_api_ErrType), ("belvedere/api.ErrName", laid_belvedere_api_ErrName), ("belvedere/api.ErrTwice", laid_belvedere_api_ErrTwice), ("belvedere/api.ErrUse", laid_belvedere_api_ErrUse), ("belvedere/api.ErrArity", laid_belvedere_api_ErrArity), ("belvedere/api.ErrOver", laid_belvedere_api_ErrOver), ("belvedere/api.ErrFull", laid_belvedere_api_ErrFull), ("belvedere/api.ErrPending", laid_belvedere_api_ErrPending), ("belvedere/api.ErrNone", laid_belvedere_api_ErrNone), ("belvedere/api.ErrLimit", laid_belvedere_api_ErrLimit)] }
def PredChecksSaid : Prop := predChecksRow.holds Tryd.pinned (OpenSpec.ofChange predChecksSpec)

/-- ITS FALSE NEIGHBOUR: 'it returns false'. Refute it at one input. -/
def predChecksWrong : ChangeSpec := { name := "predChecks", fn := fun _ => fun
  | [d] => { results := [.lit (.bool false)], args := [d] }
  | _ => none }
def PredChecksWrongFalsely : Prop := predChecksRow.holds Tryd.pinned (OpenSpec.ofChange predChecksWrong)

/-- 'belvederelaw18.CheckErrors': WHATEVER THE INPUT: true; the input reads as it did. -/
def checkErrorsSpec : ChangeSpec := { name := "checkErrors", fn := fun _ => fun
  | [d] => { results := [.lit (.bool true)], args := [d] }
  | _ => none }
def checkErrorsRow : OpenClaim := { program := "ytepnpbhfopcjlaadoor", sum := "d6e375f71d5655e2bb134438ac018bfc12c24be8d8c67f0fa82e810894f3831e", func := "belvedere/belvederelaw18.CheckErrors", spec := "checkErrors", unfollowed := true, recurses := true, named := ["belvedere/api.ErrText", "belvedere/api.ErrArity", "belvedere/api.ErrType", "belvedere/api.ErrTwice", "belvedere/api.ErrLimit", "strings.asciiSpace", "unicode.White_Space", "belvedere/api.ErrName", "belvedere/api.ErrUse", "belvedere/api.ErrOver", "belvedere/api.ErrFull", "belvedere/api.ErrPending", "belvedere/api.ErrNone"], apart := false, laid := [("belvedere/api.ErrText", laid_belvedere_api_ErrText), ("belvedere/api.ErrType", laid_belvedere_api_ErrType), ("belvedere/api.ErrName", laid_belvedere_api_ErrName), ("belvedere/api.ErrTwice", laid_belvedere_api_ErrTwice), ("belvedere/api.ErrUse", laid_belvedere_api_ErrUse), ("belvedere/api.ErrArity", laid_belvedere_api_ErrArity), ("belvedere/api.ErrOver", laid_belvedere_api_ErrOver), ("belvedere/api.ErrFull", laid_belvedere_api_ErrFull), ("belvedere/api.ErrPending", laid_belvedere_api_ErrPending), ("belvedere/api.ErrNone", laid_belvedere_api_ErrNone), ("belvedere/api.ErrLimit", laid_belvedere_api_ErrLimit), ("unicode.White_Space", laid_unicode_White_Space), ("strings.asciiSpace", laid_strings_asciiSpace)] }
def CheckErrorsSaid : Prop := checkErrorsRow.holds Tryd.pinned (OpenSpec.ofChange checkErrorsSpec)

/-- ITS FALSE NEIGHBOUR: 'it returns false'. Refute it at one input. -/
def checkErrorsWrong : ChangeSpec := { name := "checkErrors", fn := fun _ => fun
  | [d] => { results := [.lit (.bool false)], args := [d] }
  | _ => none }
def CheckErrorsWrongFalsely : Prop := checkErrorsRow.holds Tryd.pinned (OpenSpec.ofChange checkErrorsWrong)

/-- 'belvederelaw17.CatalogWrong': WHATEVER THE INPUT: true; the input reads as it did. -/
def catalogWrongSpec : ChangeSpec := { name := "catalogWrong", fn := fun _ => fun
  | [d] => { results := [.lit (.bool true)], args := [d] }
  | _ => none }
def catalogWrongRow : OpenClaim := { program := "ytepnpbhfopcjlaadoor", sum := "d6e375f71d5655e2bb134438ac018bfc12c24be8d8c67f0fa82e810894f3831e", func := "belvedere/belvederelaw17.CatalogWrong", spec := "catalogWrong", unfollowed := true, recurses := true, named := ["belvedere/api.ErrText", "belvedere/api.ErrArity", "belvedere/api.ErrType", "belvedere/api.ErrTwice", "belvedere/api.ErrLimit", "strings.asciiSpace", "unicode.White_Space", "belvedere/api.ErrName", "belvedere/api.ErrUse", "belvedere/api.ErrOver", "belvedere/api.ErrFull", "belvedere/api.ErrPending", "belvedere/api.ErrNone"], apart := false, laid := [("belvedere/api.ErrText", laid_belvedere_api_ErrText), ("belvedere/api.ErrType", laid_belvedere_api_ErrType), ("belvedere/api.ErrName", laid_belvedere_api_ErrName), ("belvedere/api.ErrTwice", laid_belvedere_api_ErrTwice), ("belvedere/api.ErrUse", laid_belvedere_api_ErrUse), ("belvedere/api.ErrArity", laid_belvedere_api_ErrArity), ("belvedere/api.ErrOver", laid_belvedere_api_ErrOver), ("belvedere/api.ErrFull", laid_belvedere_api_ErrFull), ("belvedere/api.ErrPending", laid_belvedere_api_ErrPending), ("belvedere/api.ErrNone", laid_belvedere_api_ErrNone), ("belvedere/api.ErrLimit", laid_belvedere_api_ErrLimit), ("unicode.White_Space", laid_unicode_White_Space), ("strings.asciiSpace", laid_strings_asciiSpace)] }
def CatalogWrongSaid : Prop := catalogWrongRow.holds Tryd.pinned (OpenSpec.ofChange catalogWrongSpec)

/-- ITS FALSE NEIGHBOUR: 'it returns false'. Refute it at one input. -/
def catalogWrongWrong : ChangeSpec := { name := "catalogWrong", fn := fun _ => fun
  | [d] => { results := [.lit (.bool false)], args := [d] }
  | _ => none }
def CatalogWrongWrongFalsely : Prop := catalogWrongRow.holds Tryd.pinned (OpenSpec.ofChange catalogWrongWrong)

/-- 'belvederelaw17.CatalogOrder': WHATEVER THE INPUT: true; the input reads as it did. -/
def catalogOrderSpec : ChangeSpec := { name := "catalogOrder", fn := fun _ => fun
  | [d1, d2] => { results := [.lit (.bool true)], args := [d1, d2] }
  | _ => none }
def catalogOrderRow : OpenClaim := { program := "ytepnpbhfopcjlaadoor", sum := "d6e375f71d5655e2bb134438ac018bfc12c24be8d8c67f0fa82e810894f3831e", func := "belvedere/belvederelaw17.CatalogOrder", spec := "catalogOrder", unfollowed := true, recurses := true, named := ["belvedere/api.ErrText", "belvedere/api.ErrArity", "belvedere/api.ErrType", "belvedere/api.ErrTwice", "belvedere/api.ErrLimit", "strings.asciiSpace", "unicode.White_Space", "belvedere/api.ErrName"], apart := false, laid := [("belvedere/api.ErrText", laid_belvedere_api_ErrText), ("belvedere/api.ErrType", laid_belvedere_api_ErrType), ("belvedere/api.ErrName", laid_belvedere_api_ErrName), ("belvedere/api.ErrTwice", laid_belvedere_api_ErrTwice), ("belvedere/api.ErrArity", laid_belvedere_api_ErrArity), ("belvedere/api.ErrLimit", laid_belvedere_api_ErrLimit), ("unicode.White_Space", laid_unicode_White_Space), ("strings.asciiSpace", laid_strings_asciiSpace)] }
def CatalogOrderSaid : Prop := catalogOrderRow.holds Tryd.pinned (OpenSpec.ofChange catalogOrderSpec)

/-- ITS FALSE NEIGHBOUR: 'it returns false'. Refute it at one input. -/
def catalogOrderWrong : ChangeSpec := { name := "catalogOrder", fn := fun _ => fun
  | [d1, d2] => { results := [.lit (.bool false)], args := [d1, d2] }
  | _ => none }
def CatalogOrderWrongFalsely : Prop := catalogOrderRow.holds Tryd.pinned (OpenSpec.ofChange catalogOrderWrong)

/-- 'belvederelaw17.CatalogPlays': WHATEVER THE INPUT: true; the input reads as it did. -/
def catalogPlaysSpec : ChangeSpec := { name := "catalogPlays", fn := fun _ => fun
  | [d1, d2, d3, d4] => { results := [.lit (.bool true)], args := [d1, d2, d3, d4] }
  | _ => none }
def catalogPlaysRow : OpenClaim := { program := "ytepnpbhfopcjlaadoor", sum := "d6e375f71d5655e2bb134438ac018bfc12c24be8d8c67f0fa82e810894f3831e", func := "belvedere/belvederelaw17.CatalogPlays", spec := "catalogPlays", unfollowed := true, recurses := true, named := ["belvedere/api.ErrText", "belvedere/api.ErrArity", "belvedere/api.ErrType", "belvedere/api.ErrTwice", "belvedere/api.ErrLimit", "strings.asciiSpace", "unicode.White_Space", "belvedere/api.ErrName", "belvedere/api.ErrUse", "belvedere/api.ErrOver", "belvedere/api.ErrFull", "belvedere/api.ErrPending", "belvedere/api.ErrNone"], apart := false, laid := [("belvedere/api.ErrText", laid_belvedere_api_ErrText), ("belvedere/api.ErrType", laid_belvedere_api_ErrType), ("belvedere/api.ErrName", laid_belvedere_api_ErrName), ("belvedere/api.ErrTwice", laid_belvedere_api_ErrTwice), ("belvedere/api.ErrUse", laid_belvedere_api_ErrUse), ("belvedere/api.ErrArity", laid_belvedere_api_ErrArity), ("belvedere/api.ErrOver", laid_belvedere_api_ErrOver), ("belvedere/api.ErrFull", laid_belvedere_api_ErrFull), ("belvedere/api.ErrPending", laid_belvedere_api_ErrPending), ("belvedere/api.ErrNone", laid_belvedere_api_ErrNone), ("belvedere/api.ErrLimit", laid_belvedere_api_ErrLimit), ("unicode.White_Space", laid_unicode_White_Space), ("strings.asciiSpace", laid_strings_asciiSpace)] }
def CatalogPlaysSaid : Prop := catalogPlaysRow.holds Tryd.pinned (OpenSpec.ofChange catalogPlaysSpec)

/-- ITS FALSE NEIGHBOUR: 'it returns false'. Refute it at one input. -/
def catalogPlaysWrong : ChangeSpec := { name := "catalogPlays", fn := fun _ => fun
  | [d1, d2, d3, d4] => { results := [.lit (.bool false)], args := [d1, d2, d3, d4] }
  | _ => none }
def CatalogPlaysWrongFalsely : Prop := catalogPlaysRow.holds Tryd.pinned (OpenSpec.ofChange catalogPlaysWrong)

/-- 'belvederelaw17.CatalogMost': WHATEVER THE INPUT: true; the input reads as it did. -/
def catalogMostSpec : ChangeSpec := { name := "catalogMost", fn := fun _ => fun
  | [d1, d2] => { results := [.lit (.bool true)], args := [d1, d2] }
  | _ => none }
def catalogMostRow : OpenClaim := { program := "ytepnpbhfopcjlaadoor", sum := "d6e375f71d5655e2bb134438ac018bfc12c24be8d8c67f0fa82e810894f3831e", func := "belvedere/belvederelaw17.CatalogMost", spec := "catalogMost", unfollowed := true, recurses := true, named := ["belvedere/api.ErrText", "belvedere/api.ErrArity", "belvedere/api.ErrType", "belvedere/api.ErrTwice", "belvedere/api.ErrLimit", "strings.asciiSpace", "unicode.White_Space", "belvedere/api.ErrName", "belvedere/api.ErrUse", "belvedere/api.ErrOver", "belvedere/api.ErrFull", "belvedere/api.ErrPending", "belvedere/api.ErrNone"], apart := false, laid := [("belvedere/api.ErrText", laid_belvedere_api_ErrText), ("belvedere/api.ErrType", laid_belvedere_api_ErrType), ("belvedere/api.ErrName", laid_belvedere_api_ErrName), ("belvedere/api.ErrTwice", laid_belvedere_api_ErrTwice), ("belvedere/api.ErrUse", laid_belvedere_api_ErrUse), ("belvedere/api.ErrArity", laid_belvedere_api_ErrArity), ("belvedere/api.ErrOver", laid_belvedere_api_ErrOver), ("belvedere/api.ErrFull", laid_belvedere_api_ErrFull), ("belvedere/api.ErrPending", laid_belvedere_api_ErrPending), ("belvedere/api.ErrNone", laid_belvedere_api_ErrNone), ("belvedere/api.ErrLimit", laid_belvedere_api_ErrLimit), ("unicode.White_Space", laid_unicode_White_Space), ("strings.asciiSpace", laid_strings_asciiSpace)] }
def CatalogMostSaid : Prop := catalogMostRow.holds Tryd.pinned (OpenSpec.ofChange catalogMostSpec)

/-- ITS FALSE NEIGHBOUR: 'it returns false'. Refute it at one input. -/
def catalogMostWrong : ChangeSpec := { name := "catalogMost", fn := fun _ => fun
  | [d1, d2] => { results := [.lit (.bool false)], args := [d1, d2] }
  | _ => none }
def CatalogMostWrongFalsely : Prop := catalogMostRow.holds Tryd.pinned (OpenSpec.ofChange catalogMostWrong)

/- THE SECOND FORM. 'bulk': how many values and letters a reading holds, each counted each time it is reached (what is shared counts as often as it is met; a slice's spare places count too). A statement '..UptoSaid' is the law's where the arguments, and the package variables that the reading takes, are together of bulk at most 1048576: NARROWER than '..Said'. Prove '..Said' where nothing that the law and all that it calls make is longer than what came in: it says more and counts as full. Else prove '..UptoSaid'. A law counts once. -/
mutual
def uptoBulk {H : Type} : DataW H → Nat
  | .lit (.string bytes) => bytes.length + 1
  | .lit _ => 1
  | .nil => 1
  | .ptr d => uptoBulk d + 1
  | .slice elems spare => uptoBulkAll elems + uptoBulkAll spare + 1
  | .agg parts => uptoBulkAll parts + 1
  | .iface _ d => uptoBulk d + 1
  | .map entries => uptoBulkEntries entries + 1
  | .held _ => 1
def uptoBulkAll {H : Type} : List (DataW H) → Nat
  | [] => 0
  | d :: r => uptoBulk d + uptoBulkAll r
def uptoBulkEntries {H : Type} : List (Lit × DataW H) → Nat
  | [] => 0
  | x :: r => uptoBulkEntry x + uptoBulkEntries r
def uptoBulkEntry {H : Type} : Lit × DataW H → Nat
  | (.string bytes, d) => bytes.length + uptoBulk d + 1
  | (_, d) => uptoBulk d + 1
 end
def uptoSmall : (H : Type) → List (DataW H) → Bool := fun _ ds => decide (uptoBulkAll ds ≤ 1048576)
def OpenSpec.upto (s : _root_.Go.ChangeSpec) : _root_.Go.OpenSpec := { _root_.Go.OpenSpec.ofChange s with cond := some uptoSmall }

/-- 'belvederelaw8.QuotaSteps', WHERE WHAT IT READS IS OF BULK AT MOST 1048576: true; the input reads as it did. -/
def quotaStepsUptoRow : OpenClaim := { program := "ytepnpbhfopcjlaadoor", sum := "d6e375f71d5655e2bb134438ac018bfc12c24be8d8c67f0fa82e810894f3831e", func := "belvedere/belvederelaw8.QuotaSteps", spec := "quotaSteps", named := ["belvedere/api.ErrFull"], apart := false, laid := [("belvedere/api.ErrFull", laid_belvedere_api_ErrFull)], narrowed := true }
def QuotaStepsUptoSaid : Prop := quotaStepsUptoRow.holds Tryd.pinned (OpenSpec.upto quotaStepsSpec)

/-- 'belvederelaw8.QuotaPlays', WHERE WHAT IT READS IS OF BULK AT MOST 1048576: true; the input reads as it did. -/
def quotaPlaysUptoRow : OpenClaim := { program := "ytepnpbhfopcjlaadoor", sum := "d6e375f71d5655e2bb134438ac018bfc12c24be8d8c67f0fa82e810894f3831e", func := "belvedere/belvederelaw8.QuotaPlays", spec := "quotaPlays", named := ["belvedere/api.ErrFull", "belvedere/api.ErrText", "belvedere/api.ErrType", "belvedere/api.ErrName", "belvedere/api.ErrTwice", "belvedere/api.ErrUse", "belvedere/api.ErrArity", "belvedere/api.ErrOver", "belvedere/api.ErrPending", "belvedere/api.ErrNone", "belvedere/api.ErrLimit"], apart := false, laid := [("belvedere/api.ErrText", laid_belvedere_api_ErrText), ("belvedere/api.ErrType", laid_belvedere_api_ErrType), ("belvedere/api.ErrName", laid_belvedere_api_ErrName), ("belvedere/api.ErrTwice", laid_belvedere_api_ErrTwice), ("belvedere/api.ErrUse", laid_belvedere_api_ErrUse), ("belvedere/api.ErrArity", laid_belvedere_api_ErrArity), ("belvedere/api.ErrOver", laid_belvedere_api_ErrOver), ("belvedere/api.ErrFull", laid_belvedere_api_ErrFull), ("belvedere/api.ErrPending", laid_belvedere_api_ErrPending), ("belvedere/api.ErrNone", laid_belvedere_api_ErrNone), ("belvedere/api.ErrLimit", laid_belvedere_api_ErrLimit)], narrowed := true }
def QuotaPlaysUptoSaid : Prop := quotaPlaysUptoRow.holds Tryd.pinned (OpenSpec.upto quotaPlaysSpec)

/-- 'belvederelaw8.QuotaWhole', WHERE WHAT IT READS IS OF BULK AT MOST 1048576: true; the input reads as it did. -/
def quotaWholeUptoRow : OpenClaim := { program := "ytepnpbhfopcjlaadoor", sum := "d6e375f71d5655e2bb134438ac018bfc12c24be8d8c67f0fa82e810894f3831e", func := "belvedere/belvederelaw8.QuotaWhole", spec := "quotaWhole", named := ["belvedere/api.ErrFull", "belvedere/api.ErrText", "belvedere/api.ErrType", "belvedere/api.ErrName", "belvedere/api.ErrTwice", "belvedere/api.ErrUse", "belvedere/api.ErrArity", "belvedere/api.ErrOver", "belvedere/api.ErrPending", "belvedere/api.ErrNone", "belvedere/api.ErrLimit"], apart := false, laid := [("belvedere/api.ErrText", laid_belvedere_api_ErrText), ("belvedere/api.ErrType", laid_belvedere_api_ErrType), ("belvedere/api.ErrName", laid_belvedere_api_ErrName), ("belvedere/api.ErrTwice", laid_belvedere_api_ErrTwice), ("belvedere/api.ErrUse", laid_belvedere_api_ErrUse), ("belvedere/api.ErrArity", laid_belvedere_api_ErrArity), ("belvedere/api.ErrOver", laid_belvedere_api_ErrOver), ("belvedere/api.ErrFull", laid_belvedere_api_ErrFull), ("belvedere/api.ErrPending", laid_belvedere_api_ErrPending), ("belvedere/api.ErrNone", laid_belvedere_api_ErrNone), ("belvedere/api.ErrLimit", laid_belvedere_api_ErrLimit)], narrowed := true }
def QuotaWholeUptoSaid : Prop := quotaWholeUptoRow.holds Tryd.pinned (OpenSpec.upto quotaWholeSpec)

/-- 'belvederelaw10.PredChecks', WHERE WHAT IT READS IS OF BULK AT MOST 1048576: true; the input reads as it did. -/
def predChecksUptoRow : OpenClaim := { program := "ytepnpbhfopcjlaadoor", sum := "d6e375f71d5655e2bb134438ac018bfc12c24be8d8c67f0fa82e810894f3831e", func := "belvedere/belvederelaw10.PredChecks", spec := "predChecks", inPlace := ["internal/bytealg.abigen_runtime_cmpstring"], unfollowed := true, recurses := true, named := ["belvedere/api.ErrArity", "belvedere/api.ErrType", "belvedere/api.ErrText", "belvedere/api.ErrName", "belvedere/api.ErrTwice", "belvedere/api.ErrUse", "belvedere/api.ErrOver", "belvedere/api.ErrFull", "belvedere/api.ErrPending", "belvedere/api.ErrNone", "belvedere/api.ErrLimit"], apart := false, laid := [("belvedere/api.ErrText", laid_belvedere_api_ErrText), ("belvedere/api.ErrType", laid_belvedere_api_ErrType), ("belvedere/api.ErrName", laid_belvedere_api_ErrName), ("belvedere/api.ErrTwice", laid_belvedere_api_ErrTwice), ("belvedere/api.ErrUse", laid_belvedere_api_ErrUse), ("belvedere/api.ErrArity", laid_belvedere_api_ErrArity), ("belvedere/api.ErrOver", laid_belvedere_api_ErrOver), ("belvedere/api.ErrFull", laid_belvedere_api_ErrFull), ("belvedere/api.ErrPending", laid_belvedere_api_ErrPending), ("belvedere/api.ErrNone", laid_belvedere_api_ErrNone), ("belvedere/api.ErrLimit", laid_belvedere_api_ErrLimit)], narrowed := true }
def PredChecksUptoSaid : Prop := predChecksUptoRow.holds Tryd.pinned (OpenSpec.upto predChecksSpec)

/-- 'belvederelaw18.CheckErrors', WHERE WHAT IT READS IS OF BULK AT MOST 1048576: true; the input reads as it did. -/
def checkErrorsUptoRow : OpenClaim := { program := "ytepnpbhfopcjlaadoor", sum := "d6e375f71d5655e2bb134438ac018bfc12c24be8d8c67f0fa82e810894f3831e", func := "belvedere/belvederelaw18.CheckErrors", spec := "checkErrors", unfollowed := true, recurses := true, named := ["belvedere/api.ErrText", "belvedere/api.ErrArity", "belvedere/api.ErrType", "belvedere/api.ErrTwice", "belvedere/api.ErrLimit", "strings.asciiSpace", "unicode.White_Space", "belvedere/api.ErrName", "belvedere/api.ErrUse", "belvedere/api.ErrOver", "belvedere/api.ErrFull", "belvedere/api.ErrPending", "belvedere/api.ErrNone"], apart := false, laid := [("belvedere/api.ErrText", laid_belvedere_api_ErrText), ("belvedere/api.ErrType", laid_belvedere_api_ErrType), ("belvedere/api.ErrName", laid_belvedere_api_ErrName), ("belvedere/api.ErrTwice", laid_belvedere_api_ErrTwice), ("belvedere/api.ErrUse", laid_belvedere_api_ErrUse), ("belvedere/api.ErrArity", laid_belvedere_api_ErrArity), ("belvedere/api.ErrOver", laid_belvedere_api_ErrOver), ("belvedere/api.ErrFull", laid_belvedere_api_ErrFull), ("belvedere/api.ErrPending", laid_belvedere_api_ErrPending), ("belvedere/api.ErrNone", laid_belvedere_api_ErrNone), ("belvedere/api.ErrLimit", laid_belvedere_api_ErrLimit), ("unicode.White_Space", laid_unicode_White_Space), ("strings.asciiSpace", laid_strings_asciiSpace)], narrowed := true }
def CheckErrorsUptoSaid : Prop := checkErrorsUptoRow.holds Tryd.pinned (OpenSpec.upto checkErrorsSpec)

/-- 'belvederelaw17.CatalogWrong', WHERE WHAT IT READS IS OF BULK AT MOST 1048576: true; the input reads as it did. -/
def catalogWrongUptoRow : OpenClaim := { program := "ytepnpbhfopcjlaadoor", sum := "d6e375f71d5655e2bb134438ac018bfc12c24be8d8c67f0fa82e810894f3831e", func := "belvedere/belvederelaw17.CatalogWrong", spec := "catalogWrong", unfollowed := true, recurses := true, named := ["belvedere/api.ErrText", "belvedere/api.ErrArity", "belvedere/api.ErrType", "belvedere/api.ErrTwice", "belvedere/api.ErrLimit", "strings.asciiSpace", "unicode.White_Space", "belvedere/api.ErrName", "belvedere/api.ErrUse", "belvedere/api.ErrOver", "belvedere/api.ErrFull", "belvedere/api.ErrPending", "belvedere/api.ErrNone"], apart := false, laid := [("belvedere/api.ErrText", laid_belvedere_api_ErrText), ("belvedere/api.ErrType", laid_belvedere_api_ErrType), ("belvedere/api.ErrName", laid_belvedere_api_ErrName), ("belvedere/api.ErrTwice", laid_belvedere_api_ErrTwice), ("belvedere/api.ErrUse", laid_belvedere_api_ErrUse), ("belvedere/api.ErrArity", laid_belvedere_api_ErrArity), ("belvedere/api.ErrOver", laid_belvedere_api_ErrOver), ("belvedere/api.ErrFull", laid_belvedere_api_ErrFull), ("belvedere/api.ErrPending", laid_belvedere_api_ErrPending), ("belvedere/api.ErrNone", laid_belvedere_api_ErrNone), ("belvedere/api.ErrLimit", laid_belvedere_api_ErrLimit), ("unicode.White_Space", laid_unicode_White_Space), ("strings.asciiSpace", laid_strings_asciiSpace)], narrowed := true }
def CatalogWrongUptoSaid : Prop := catalogWrongUptoRow.holds Tryd.pinned (OpenSpec.upto catalogWrongSpec)

/-- 'belvederelaw17.CatalogOrder', WHERE WHAT IT READS IS OF BULK AT MOST 1048576: true; the input reads as it did. -/
def catalogOrderUptoRow : OpenClaim := { program := "ytepnpbhfopcjlaadoor", sum := "d6e375f71d5655e2bb134438ac018bfc12c24be8d8c67f0fa82e810894f3831e", func := "belvedere/belvederelaw17.CatalogOrder", spec := "catalogOrder", unfollowed := true, recurses := true, named := ["belvedere/api.ErrText", "belvedere/api.ErrArity", "belvedere/api.ErrType", "belvedere/api.ErrTwice", "belvedere/api.ErrLimit", "strings.asciiSpace", "unicode.White_Space", "belvedere/api.ErrName"], apart := false, laid := [("belvedere/api.ErrText", laid_belvedere_api_ErrText), ("belvedere/api.ErrType", laid_belvedere_api_ErrType), ("belvedere/api.ErrName", laid_belvedere_api_ErrName), ("belvedere/api.ErrTwice", laid_belvedere_api_ErrTwice), ("belvedere/api.ErrArity", laid_belvedere_api_ErrArity), ("belvedere/api.ErrLimit", laid_belvedere_api_ErrLimit), ("unicode.White_Space", laid_unicode_White_Space), ("strings.asciiSpace", laid_strings_asciiSpace)], narrowed := true }
def CatalogOrderUptoSaid : Prop := catalogOrderUptoRow.holds Tryd.pinned (OpenSpec.upto catalogOrderSpec)

/-- 'belvederelaw17.CatalogPlays', WHERE WHAT IT READS IS OF BULK AT MOST 1048576: true; the input reads as it did. -/
def catalogPlaysUptoRow : OpenClaim := { program := "ytepnpbhfopcjlaadoor", sum := "d6e375f71d5655e2bb134438ac018bfc12c24be8d8c67f0fa82e810894f3831e", func := "belvedere/belvederelaw17.CatalogPlays", spec := "catalogPlays", unfollowed := true, recurses := true, named := ["belvedere/api.ErrText", "belvedere/api.ErrArity", "belvedere/api.ErrType", "belvedere/api.ErrTwice", "belvedere/api.ErrLimit", "strings.asciiSpace", "unicode.White_Space", "belvedere/api.ErrName", "belvedere/api.ErrUse", "belvedere/api.ErrOver", "belvedere/api.ErrFull", "belvedere/api.ErrPending", "belvedere/api.ErrNone"], apart := false, laid := [("belvedere/api.ErrText", laid_belvedere_api_ErrText), ("belvedere/api.ErrType", laid_belvedere_api_ErrType), ("belvedere/api.ErrName", laid_belvedere_api_ErrName), ("belvedere/api.ErrTwice", laid_belvedere_api_ErrTwice), ("belvedere/api.ErrUse", laid_belvedere_api_ErrUse), ("belvedere/api.ErrArity", laid_belvedere_api_ErrArity), ("belvedere/api.ErrOver", laid_belvedere_api_ErrOver), ("belvedere/api.ErrFull", laid_belvedere_api_ErrFull), ("belvedere/api.ErrPending", laid_belvedere_api_ErrPending), ("belvedere/api.ErrNone", laid_belvedere_api_ErrNone), ("belvedere/api.ErrLimit", laid_belvedere_api_ErrLimit), ("unicode.White_Space", laid_unicode_White_Space), ("strings.asciiSpace", laid_strings_asciiSpace)], narrowed := true }
def CatalogPlaysUptoSaid : Prop := catalogPlaysUptoRow.holds Tryd.pinned (OpenSpec.upto catalogPlaysSpec)

/-- 'belvederelaw17.CatalogMost', WHERE WHAT IT READS IS OF BULK AT MOST 1048576: true; the input reads as it did. -/
def catalogMostUptoRow : OpenClaim := { program := "ytepnpbhfopcjlaadoor", sum := "d6e375f71d5655e2bb134438ac018bfc12c24be8d8c67f0fa82e810894f3831e", func := "belvedere/belvederelaw17.CatalogMost", spec := "catalogMost", unfollowed := true, recurses := true, named := ["belvedere/api.ErrText", "belvedere/api.ErrArity", "belvedere/api.ErrType", "belvedere/api.ErrTwice", "belvedere/api.ErrLimit", "strings.asciiSpace", "unicode.White_Space", "belvedere/api.ErrName", "belvedere/api.ErrUse", "belvedere/api.ErrOver", "belvedere/api.ErrFull", "belvedere/api.ErrPending", "belvedere/api.ErrNone"], apart := false, laid := [("belvedere/api.ErrText", laid_belvedere_api_ErrText), ("belvedere/api.ErrType", laid_belvedere_api_ErrType), ("belvedere/api.ErrName", laid_belvedere_api_ErrName), ("belvedere/api.ErrTwice", laid_belvedere_api_ErrTwice), ("belvedere/api.ErrUse", laid_belvedere_api_ErrUse), ("belvedere/api.ErrArity", laid_belvedere_api_ErrArity), ("belvedere/api.ErrOver", laid_belvedere_api_ErrOver), ("belvedere/api.ErrFull", laid_belvedere_api_ErrFull), ("belvedere/api.ErrPending", laid_belvedere_api_ErrPending), ("belvedere/api.ErrNone", laid_belvedere_api_ErrNone), ("belvedere/api.ErrLimit", laid_belvedere_api_ErrLimit), ("unicode.White_Space", laid_unicode_White_Space), ("strings.asciiSpace", laid_strings_asciiSpace)], narrowed := true }
def CatalogMostUptoSaid : Prop := catalogMostUptoRow.holds Tryd.pinned (OpenSpec.upto catalogMostSpec)

end Rows
end Go.Proofs.YtepnpbhfopcjlaaDoor
