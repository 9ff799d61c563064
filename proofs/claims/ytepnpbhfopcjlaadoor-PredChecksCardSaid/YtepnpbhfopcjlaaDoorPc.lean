/-
  PredChecks answers true for every input, and leaves it as it was.
-/
import Derived.Test.YtepnpbhfopcjlaaDoorEn
import Derived.Test.YtepnpbhfopcjlaaDoorCards
import Derived.Test.YtepnpbhfopcjlaaDoorTie
import Derived.ProofKit
import Derived.LaidMore
import Derived.OpenShut
import Derived.Stop.Joined
import Derived.SevenTiedAt
namespace Go.Proofs.YtepnpbhfopcjlaaDoor
open Go Go.AE Go.ChangeShapes Go.WideShapes Go.ChangeAt Go.WideMaps Go.WideElems Go.RowKit

def pcL : List (Nat × List UInt8) := sentL.map (·.2)
theorem pc_head (n : Int) : headN (En pcL) 60 6 10 [.p (.int .i64 n)] st0 [] = headN (En pcL) 60 6 10 [.p (.int .i64 0)] st0
    [(0, .p (.int .i64 n)), (45, .p (.int .i64 n)), (48, .p (.int .i64 (n.tmod 14))), (51, .p (.int .i64 (IntKind.i64.wrap (n.tmod 14 + 14)))), (54, .p (.int .i64 (pick 14 n))), (9, .p (.int .i64 (pick 14 n)))] := by kernel_rfl
theorem pc_some (n : Int) : (headN (En pcL) 60 6 10 [.p (.int .i64 n)] st0 []).isSome = true := by kernel_rfl
def pcSets (n a b k : Int) : List (Nat × V) := [(0, .p (.int .i64 n)), (45, .p (.int .i64 n)), (48, .p (.int .i64 a)), (51, .p (.int .i64 b)), (54, .p (.int .i64 k)), (9, .p (.int .i64 k))]
theorem pc_tail0 (n a b : Int) : (tailN (En pcL) 60 6 10 [.p (.int .i64 0)] st0 (pcSets n a b 0)).map (·.1) = some (.p (.bool true)) := by kernel_rfl
theorem pc_tail1 (n a b : Int) : (tailN (En pcL) 60 6 10 [.p (.int .i64 0)] st0 (pcSets n a b 1)).map (·.1) = some (.p (.bool true)) := by kernel_rfl
theorem pc_tail2 (n a b : Int) : (tailN (En pcL) 60 6 10 [.p (.int .i64 0)] st0 (pcSets n a b 2)).map (·.1) = some (.p (.bool true)) := by kernel_rfl
theorem pc_tail3 (n a b : Int) : (tailN (En pcL) 60 6 10 [.p (.int .i64 0)] st0 (pcSets n a b 3)).map (·.1) = some (.p (.bool true)) := by kernel_rfl
theorem pc_tail4 (n a b : Int) : (tailN (En pcL) 60 6 10 [.p (.int .i64 0)] st0 (pcSets n a b 4)).map (·.1) = some (.p (.bool true)) := by kernel_rfl
theorem pc_tail5 (n a b : Int) : (tailN (En pcL) 60 6 10 [.p (.int .i64 0)] st0 (pcSets n a b 5)).map (·.1) = some (.p (.bool true)) := by kernel_rfl
theorem pc_tail6 (n a b : Int) : (tailN (En pcL) 60 6 10 [.p (.int .i64 0)] st0 (pcSets n a b 6)).map (·.1) = some (.p (.bool true)) := by kernel_rfl
theorem pc_tail7 (n a b : Int) : (tailN (En pcL) 60 6 10 [.p (.int .i64 0)] st0 (pcSets n a b 7)).map (·.1) = some (.p (.bool true)) := by kernel_rfl
theorem pc_tail8 (n a b : Int) : (tailN (En pcL) 60 6 10 [.p (.int .i64 0)] st0 (pcSets n a b 8)).map (·.1) = some (.p (.bool true)) := by kernel_rfl
theorem pc_tail9 (n a b : Int) : (tailN (En pcL) 60 6 10 [.p (.int .i64 0)] st0 (pcSets n a b 9)).map (·.1) = some (.p (.bool true)) := by kernel_rfl
theorem pc_tail10 (n a b : Int) : (tailN (En pcL) 60 6 10 [.p (.int .i64 0)] st0 (pcSets n a b 10)).map (·.1) = some (.p (.bool true)) := by kernel_rfl
theorem pc_tail11 (n a b : Int) : (tailN (En pcL) 60 6 10 [.p (.int .i64 0)] st0 (pcSets n a b 11)).map (·.1) = some (.p (.bool true)) := by kernel_rfl
theorem pc_tail12 (n a b : Int) : (tailN (En pcL) 60 6 10 [.p (.int .i64 0)] st0 (pcSets n a b 12)).map (·.1) = some (.p (.bool true)) := by kernel_rfl
theorem pc_tail13 (n a b : Int) : (tailN (En pcL) 60 6 10 [.p (.int .i64 0)] st0 (pcSets n a b 13)).map (·.1) = some (.p (.bool true)) := by kernel_rfl
theorem pc_tail (n a b k : Int) (h0 : 0 ≤ k) (h1 : k < 14) : (tailN (En pcL) 60 6 10 [.p (.int .i64 0)] st0 (pcSets n a b k)).map (·.1) = some (.p (.bool true)) := by
  have h : k = 0 ∨ k = 1 ∨ k = 2 ∨ k = 3 ∨ k = 4 ∨ k = 5 ∨ k = 6 ∨ k = 7 ∨ k = 8 ∨ k = 9 ∨ k = 10 ∨ k = 11 ∨ k = 12 ∨ k = 13 := by omega
  rcases h with rfl | rfl | rfl | rfl | rfl | rfl | rfl | rfl | rfl | rfl | rfl | rfl | rfl | rfl
  · exact pc_tail0 n a b
  · exact pc_tail1 n a b
  · exact pc_tail2 n a b
  · exact pc_tail3 n a b
  · exact pc_tail4 n a b
  · exact pc_tail5 n a b
  · exact pc_tail6 n a b
  · exact pc_tail7 n a b
  · exact pc_tail8 n a b
  · exact pc_tail9 n a b
  · exact pc_tail10 n a b
  · exact pc_tail11 n a b
  · exact pc_tail12 n a b
  · exact pc_tail13 n a b
theorem pc_run (n : Int) : ∃ st', callN (En pcL) 61 6 [.p (.int .i64 n)] st0 = some (.p (.bool true), st') := by
  obtain ⟨h0, h1⟩ := pick_range (m := 14) (by decide) (by decide) n
  rw [callN_cut rfl (pc_head n) (pc_some n)]
  exact of_map (pc_tail n _ _ _ h0 h1)

theorem own : ownKnob Tryd.prog.godebug = none := by kernel_rfl

set_option maxRecDepth 100000 in
theorem pc_sents {W : World} (h : laidMetH Tryd.prog Rows.predChecksRow.laid W) : Sents W 202 pcL :=
  sents_of_laid (L := sentL) (ti := 27) (ts := 9) h (by kernel_rfl) Tryd.underlying27 row202 Tryd.underlying202 Tryd.underlying218 rfl rfl Tryd.underlying9 (by kernel_rfl) (by kernel_rfl) (by kernel_rfl) (by kernel_rfl) (k := 11) (by kernel_rfl)
theorem pc_nd : ∀ p ∈ pcL, ∀ q ∈ pcL, p.2 = q.2 → p.1 = q.1 := by decide

theorem pc_door (os : Os) (args : Array Value) : laidMetH Tryd.prog Rows.predChecksRow.laid ((World.doorLaid Tryd.prog 400 os).forCall (fun _ _ => 0) ⟨#[], args, []⟩).memory :=
  laidMetH_of_parts3 (fuel := 8) (laidMet_of_run' 8 (by kernel_rfl) (by kernel_rfl)) (by kernel_rfl) (by kernel_rfl)

set_option maxRecDepth 100000 in
theorem pc_lifted (os : Os) (started : os.Started) (H : Type) (enc : TypeId × Value → H) :
    ReturnsInHanded {} Tryd.checked os 6 .any (fun w args => (Rows.predChecksSpec.pre enc Tryd.prog Tryd.f6 [] false w args ∧ laidMetH Tryd.prog Rows.predChecksRow.laid w) ∧ sizedMet enc Tryd.prog Tryd.f6 (OpenSpec.ofChange Rows.predChecksSpec) false w args)
      (Rows.predChecksSpec.post enc Tryd.prog Tryd.f6 false true false false) := by
  refine returnsInHanded_of_change_and (C := Tryd.checked) (X := fun w _ => laidMetH Tryd.prog Rows.predChecksRow.laid w) (fun _ _ _ hh h => h.of_heap hh) own started (by kernel_rfl) Tryd.func6
    (ChangeSpec.witness_shaped (enc := enc) (C := Tryd.checked) (os := os) (X := fun w _ => laidMetH Tryd.prog Rows.predChecksRow.laid w) false (World.doorLaid Tryd.prog 400 os) #[.int .i64 0] 8 rfl (World.shaped_of_RefB (by kernel_rfl) (by kernel_rfl)) (by kernel_rfl) (by kernel_rfl) (by kernel_rfl) (pc_door os _)) ?_
  intro W base args ds gs before hval0 hW _ _ hL _
  have hval : ∀ (j : Nat) t v, Tryd.f6.params[j]? = some t → args[j]? = some v → Value.okWide Tryd.prog W .any base t v := hval0
  have hW' := hW
  obtain ⟨p, q, hA0, hV, rfl, hfz, hnd⟩ := hW
  have hA : DataW.TrodAll enc Tryd.prog W 0 (fun _ => true) true Tryd.f6.params.toList args.toList ds p := hA0
  rw [Tryd.params6] at hA hval
  obtain ⟨v0, d0, rfl, rfl, h0⟩ := trodAll_one hA
  obtain ⟨rfl, rfl⟩ := trodVars_none hV
  obtain ⟨n, _, ho⟩ := int_open Tryd.underlying3 (hval 0 3 v0 rfl rfl) h0
  obtain ⟨st', hrun⟩ := pc_run n
  have hargs := ArgsOpen.cons ho ArgsOpen.nil
  rw [List.append_nil] at hargs hW'
  exact law_contract (k := kW pcL W) (tb := 4) rfl rfl rfl (En_ok (pc_sents hL) pc_nd) Tryd.func6 rfl (by rw [Tryd.params6]) rfl Tryd.underlying4 rfl hargs rfl rfl (by rw [Tryd.params6] at hW'; exact hW') hrun

theorem pc_holds : Rows.PredChecksSaid :=
  OpenClaim.holds_of_wide 6 Tryd.f6 rfl rfl rfl rfl rfl rfl rfl ⟨rfl, rfl, rfl, rfl, rfl⟩ rfl rfl rfl rfl rfl (by kernel_rfl) Tryd.func6 (by kernel_rfl)
    (of_decide_eq_true (by kernel_rfl)) (by unfold Func.isWrapper; first | (rw [if_pos (by decide +kernel)]; kernel_rfl) | (rw [if_neg (by decide +kernel)]; exact ⟨rfl, rfl⟩))
    (fun os started H enc _ => pc_lifted os started H enc)

theorem predChecks_holds : Rows.PredChecksCardSaid :=
  Claim7.holds_tied_plain_at .later [] [.sentinel, .sentinel, .sentinel, .sentinel, .sentinel, .sentinel, .sentinel, .sentinel, .sentinel, .sentinel, .sentinel] true (true, "69b7c689dd06827b1fd5c7ed6a35dc144edab576667a3f1c88769fcde8a8e30f") true
    pc_holds (fun _ h => by cases h) (by kernel_rfl) (fun _ h => by cases h) predChecks_row_tie rfl ⟨rfl, rfl⟩ (by kernel_rfl) rfl
    (fun f fn hf hfn => by
      obtain rfl : f = 6 := Option.some.inj ((show Tryd.prog.funcNamed "belvedere/belvederelaw10.PredChecks" = some 6 by kernel_rfl).symm.trans hf) |>.symm
      obtain rfl : fn = Tryd.f6 := (Option.some.inj (Tryd.func6.symm.trans hfn)).symm
      exact ⟨by kernel_rfl, fun j t ht => by
        rw [Tryd.params6] at ht
        have hm : t ∈ [3] := by simpa using Array.mem_of_getElem? ht
        have hall : ([3].all fun u => !Tryd.prog.wantsStandIn u) = true := by kernel_rfl
        exact (show Tryd.prog.wantsStandIn t = false by simpa using List.all_eq_true.1 hall t hm)⟩)
    (by kernel_rfl)
#print axioms predChecks_holds
end Go.Proofs.YtepnpbhfopcjlaaDoor
