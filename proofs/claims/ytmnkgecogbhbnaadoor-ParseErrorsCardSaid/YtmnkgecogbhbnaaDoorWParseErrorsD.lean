/-
  ParseErrors: a start at which the listed variables read as listed; what their reading gives.
-/
import Derived.Test.YtmnkgecogbhbnaaDoorWParseErrorsR
import Derived.ProofKit
import Derived.LaidMore
import Derived.OpenShut
namespace Go.Proofs.YtmnkgecogbhbnaaDoor.parseErrors
open Go Go.AE Go.ChangeShapes Go.WideShapes

set_option maxRecDepth 100000
theorem sents {W : World} (h : laidMetH Tryd.prog Rows.parseErrorsRow.laid W) : Sents W 158 L :=
  sents_of_laid (L := sentL) (ti := 36) (ts := 9) h (by kernel_rfl) Tryd.underlying36 rowErr Tryd.underlying158 Tryd.underlying160 rfl rfl Tryd.underlying9 (by kernel_rfl) (by kernel_rfl) (by kernel_rfl) (by kernel_rfl) (j := 5) (k := 11) (by kernel_rfl)
theorem nd : ∀ p ∈ L, ∀ q ∈ L, p.2 = q.2 → p.1 = q.1 := by decide
theorem data {W : World} (h : laidMetH Tryd.prog Rows.parseErrorsRow.laid W) : ∀ q ∈ dataL, GlAt W q.1 q.2 := by
  intro q hq
  have e : q = (12, asciiL.map (.int .u8)) := by simpa [dataL] using hq
  subst e
  exact ints_of_laid (name := "strings.asciiSpace") (t := 123) (n := 256) (k := 17) h (by kernel_rfl) (by kernel_rfl) (by kernel_rfl) Tryd.underlying123 Tryd.underlying5 (by kernel_rfl) (by kernel_rfl) (by decide) (by kernel_rfl)
theorem ok {W : World} (h : laidMetH Tryd.prog Rows.parseErrorsRow.laid W) : Ok (mkK (En L) L W) :=
  En_ok (sents h) nd (data h)
theorem door (os : Os) (args : Array Value) : laidMetH Tryd.prog Rows.parseErrorsRow.laid ((World.doorLaid Tryd.prog 400 os).forCall (fun _ _ => 0) ⟨#[], args, []⟩).memory :=
  laidMetH_of_parts3 (fuel := 8) (laidMet_of_run' 8 (by kernel_rfl) (by kernel_rfl)) (by kernel_rfl) (by kernel_rfl)
end Go.Proofs.YtmnkgecogbhbnaaDoor.parseErrors
