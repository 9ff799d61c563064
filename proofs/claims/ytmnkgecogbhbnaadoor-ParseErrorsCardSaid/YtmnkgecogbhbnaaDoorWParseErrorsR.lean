/-
  ParseErrors, evaluated: what the law comes to for each number.
-/
import Derived.Test.YtmnkgecogbhbnaaDoorEn
namespace Go.Proofs.YtmnkgecogbhbnaaDoor.parseErrors
open Go Go.AE

def sentL : List (String × Nat × List UInt8) := [("belvedere/api.ErrText", 0, [110, 111, 116, 32, 97, 115, 32, 105, 116, 32, 105, 115, 32, 119, 114, 105, 116, 116, 101, 110]), ("belvedere/api.ErrType", 2, [116, 121, 112, 101, 115, 32, 116, 104, 97, 116, 32, 100, 111, 32, 110, 111, 116, 32, 102, 105, 116]), ("belvedere/api.ErrName", 3, [97, 32, 110, 97, 109, 101, 32, 116, 104, 97, 116, 32, 105, 115, 32, 110, 111, 98, 111, 100, 121, 39, 115]), ("belvedere/api.ErrTwice", 4, [97, 32, 110, 97, 109, 101, 32, 116, 119, 105, 99, 101]), ("belvedere/api.ErrUse", 5, [97, 32, 116, 97, 98, 108, 101, 32, 116, 104, 97, 116, 32, 105, 115, 32, 117, 115, 101, 100]), ("belvedere/api.ErrArity", 6, [99, 111, 108, 117, 109, 110, 115, 32, 116, 104, 97, 116, 32, 97, 114, 101, 32, 116, 111, 111, 32, 109, 97, 110, 121, 44, 32, 111, 114, 32, 116, 111, 111, 32, 102, 101, 119]), ("belvedere/api.ErrOver", 7, [97, 32, 110, 117, 109, 98, 101, 114, 32, 98, 101, 121, 111, 110, 100, 32, 105, 116, 115, 32, 98, 111, 117, 110, 100, 115]), ("belvedere/api.ErrFull", 8, [109, 111, 114, 101, 32, 114, 111, 119, 115, 32, 116, 104, 97, 110, 32, 109, 97, 121, 32, 98, 101]), ("belvedere/api.ErrPending", 9, [97, 32, 109, 105, 103, 114, 97, 116, 105, 111, 110, 32, 105, 115, 32, 117, 110, 100, 101, 114, 32, 119, 97, 121]), ("belvedere/api.ErrNone", 10, [110, 111, 32, 109, 105, 103, 114, 97, 116, 105, 111, 110, 32, 105, 115, 32, 117, 110, 100, 101, 114, 32, 119, 97, 121]), ("belvedere/api.ErrLimit", 1, [109, 111, 114, 101, 32, 116, 104, 97, 110, 32, 109, 97, 121, 32, 98, 101])]
def L : List (Nat × List UInt8) := sentL.map (·.2)
theorem head (n : Int) : headN (En L) 1000 3 7 [.p (.int .i64 n)] st0 [] = headN (En L) 1000 3 7 [.p (.int .i64 0)] st0 [(0, .p (.int .i64 n)), (6, .p (.int .i64 (pick 18 n))), (14, .p (.int .i64 n)), (17, .p (.int .i64 (n.tmod 18))), (20, .p (.int .i64 (IntKind.i64.wrap (n.tmod 18 + 18)))), (23, .p (.int .i64 (pick 18 n)))] := by kernel_rfl
theorem some (n : Int) : (headN (En L) 1000 3 7 [.p (.int .i64 n)] st0 []).isSome = true := by kernel_rfl
def sets (n a b k : Int) : List (Nat × V) := [(0, .p (.int .i64 n)), (6, .p (.int .i64 k)), (14, .p (.int .i64 n)), (17, .p (.int .i64 a)), (20, .p (.int .i64 b)), (23, .p (.int .i64 k))]
theorem tail0 (n a b : Int) : (tailN (En L) 1000 3 7 [.p (.int .i64 0)] st0 (sets n a b 0)).map (·.1) = Option.some (.p (.bool true)) := by kernel_rfl
theorem tail1 (n a b : Int) : (tailN (En L) 1000 3 7 [.p (.int .i64 0)] st0 (sets n a b 1)).map (·.1) = Option.some (.p (.bool true)) := by kernel_rfl
theorem tail2 (n a b : Int) : (tailN (En L) 1000 3 7 [.p (.int .i64 0)] st0 (sets n a b 2)).map (·.1) = Option.some (.p (.bool true)) := by kernel_rfl
theorem tail3 (n a b : Int) : (tailN (En L) 1000 3 7 [.p (.int .i64 0)] st0 (sets n a b 3)).map (·.1) = Option.some (.p (.bool true)) := by kernel_rfl
theorem tail4 (n a b : Int) : (tailN (En L) 1000 3 7 [.p (.int .i64 0)] st0 (sets n a b 4)).map (·.1) = Option.some (.p (.bool true)) := by kernel_rfl
theorem tail5 (n a b : Int) : (tailN (En L) 1000 3 7 [.p (.int .i64 0)] st0 (sets n a b 5)).map (·.1) = Option.some (.p (.bool true)) := by kernel_rfl
theorem tail6 (n a b : Int) : (tailN (En L) 1000 3 7 [.p (.int .i64 0)] st0 (sets n a b 6)).map (·.1) = Option.some (.p (.bool true)) := by kernel_rfl
theorem tail7 (n a b : Int) : (tailN (En L) 1000 3 7 [.p (.int .i64 0)] st0 (sets n a b 7)).map (·.1) = Option.some (.p (.bool true)) := by kernel_rfl
theorem tail8 (n a b : Int) : (tailN (En L) 1000 3 7 [.p (.int .i64 0)] st0 (sets n a b 8)).map (·.1) = Option.some (.p (.bool true)) := by kernel_rfl
theorem tail9 (n a b : Int) : (tailN (En L) 1000 3 7 [.p (.int .i64 0)] st0 (sets n a b 9)).map (·.1) = Option.some (.p (.bool true)) := by kernel_rfl
theorem tail10 (n a b : Int) : (tailN (En L) 1000 3 7 [.p (.int .i64 0)] st0 (sets n a b 10)).map (·.1) = Option.some (.p (.bool true)) := by kernel_rfl
theorem tail11 (n a b : Int) : (tailN (En L) 1000 3 7 [.p (.int .i64 0)] st0 (sets n a b 11)).map (·.1) = Option.some (.p (.bool true)) := by kernel_rfl
theorem tail12 (n a b : Int) : (tailN (En L) 1000 3 7 [.p (.int .i64 0)] st0 (sets n a b 12)).map (·.1) = Option.some (.p (.bool true)) := by kernel_rfl
theorem tail13 (n a b : Int) : (tailN (En L) 1000 3 7 [.p (.int .i64 0)] st0 (sets n a b 13)).map (·.1) = Option.some (.p (.bool true)) := by kernel_rfl
theorem tail14 (n a b : Int) : (tailN (En L) 1000 3 7 [.p (.int .i64 0)] st0 (sets n a b 14)).map (·.1) = Option.some (.p (.bool true)) := by kernel_rfl
theorem tail15 (n a b : Int) : (tailN (En L) 1000 3 7 [.p (.int .i64 0)] st0 (sets n a b 15)).map (·.1) = Option.some (.p (.bool true)) := by kernel_rfl
theorem tail16 (n a b : Int) : (tailN (En L) 1000 3 7 [.p (.int .i64 0)] st0 (sets n a b 16)).map (·.1) = Option.some (.p (.bool true)) := by kernel_rfl
theorem tail17 (n a b : Int) : (tailN (En L) 1000 3 7 [.p (.int .i64 0)] st0 (sets n a b 17)).map (·.1) = Option.some (.p (.bool true)) := by kernel_rfl
theorem tail (n a b k : Int) (h0 : 0 ≤ k) (h1 : k < 18) : (tailN (En L) 1000 3 7 [.p (.int .i64 0)] st0 (sets n a b k)).map (·.1) = Option.some (.p (.bool true)) := by
  have h : k = 0 ∨ k = 1 ∨ k = 2 ∨ k = 3 ∨ k = 4 ∨ k = 5 ∨ k = 6 ∨ k = 7 ∨ k = 8 ∨ k = 9 ∨ k = 10 ∨ k = 11 ∨ k = 12 ∨ k = 13 ∨ k = 14 ∨ k = 15 ∨ k = 16 ∨ k = 17 := by omega
  rcases h with rfl | rfl | rfl | rfl | rfl | rfl | rfl | rfl | rfl | rfl | rfl | rfl | rfl | rfl | rfl | rfl | rfl | rfl
  · exact tail0 n a b
  · exact tail1 n a b
  · exact tail2 n a b
  · exact tail3 n a b
  · exact tail4 n a b
  · exact tail5 n a b
  · exact tail6 n a b
  · exact tail7 n a b
  · exact tail8 n a b
  · exact tail9 n a b
  · exact tail10 n a b
  · exact tail11 n a b
  · exact tail12 n a b
  · exact tail13 n a b
  · exact tail14 n a b
  · exact tail15 n a b
  · exact tail16 n a b
  · exact tail17 n a b
theorem run (n : Int) : ∃ st', callN (En L) 1001 3 [.p (.int .i64 n)] st0 = Option.some (.p (.bool true), st') := by
  obtain ⟨h0, h1⟩ := pick_range (m := 18) (by decide) (by decide) n
  rw [callN_cut rfl (head n) (some n)]
  exact of_map (tail n _ _ _ h0 h1)
end Go.Proofs.YtmnkgecogbhbnaaDoor.parseErrors
