/-
  ParseBinds, evaluated: what the law comes to for each number.
-/
import Derived.Test.YtmnkgecogbhbnaaDoorEn
namespace Go.Proofs.YtmnkgecogbhbnaaDoor.parseBinds
open Go Go.AE

def sentL : List (String × Nat × List UInt8) := [("belvedere/api.ErrText", 0, [110, 111, 116, 32, 97, 115, 32, 105, 116, 32, 105, 115, 32, 119, 114, 105, 116, 116, 101, 110]), ("belvedere/api.ErrLimit", 1, [109, 111, 114, 101, 32, 116, 104, 97, 110, 32, 109, 97, 121, 32, 98, 101])]
def L : List (Nat × List UInt8) := sentL.map (·.2)
theorem head (n : Int) : headN (En L) 1000 5 7 [.p (.int .i64 n)] st0 [] = headN (En L) 1000 5 7 [.p (.int .i64 0)] st0 [(0, .p (.int .i64 n)), (6, .p (.int .i64 (pick 9 n))), (16, .p (.int .i64 n)), (19, .p (.int .i64 (n.tmod 9))), (22, .p (.int .i64 (IntKind.i64.wrap (n.tmod 9 + 9)))), (25, .p (.int .i64 (pick 9 n)))] := by kernel_rfl
theorem some (n : Int) : (headN (En L) 1000 5 7 [.p (.int .i64 n)] st0 []).isSome = true := by kernel_rfl
def sets (n a b k : Int) : List (Nat × V) := [(0, .p (.int .i64 n)), (6, .p (.int .i64 k)), (16, .p (.int .i64 n)), (19, .p (.int .i64 a)), (22, .p (.int .i64 b)), (25, .p (.int .i64 k))]
theorem tail0 (n a b : Int) : (tailN (En L) 1000 5 7 [.p (.int .i64 0)] st0 (sets n a b 0)).map (·.1) = Option.some (.p (.bool true)) := by kernel_rfl
theorem tail1 (n a b : Int) : (tailN (En L) 1000 5 7 [.p (.int .i64 0)] st0 (sets n a b 1)).map (·.1) = Option.some (.p (.bool true)) := by kernel_rfl
theorem tail2 (n a b : Int) : (tailN (En L) 1000 5 7 [.p (.int .i64 0)] st0 (sets n a b 2)).map (·.1) = Option.some (.p (.bool true)) := by kernel_rfl
theorem tail3 (n a b : Int) : (tailN (En L) 1000 5 7 [.p (.int .i64 0)] st0 (sets n a b 3)).map (·.1) = Option.some (.p (.bool true)) := by kernel_rfl
theorem tail4 (n a b : Int) : (tailN (En L) 1000 5 7 [.p (.int .i64 0)] st0 (sets n a b 4)).map (·.1) = Option.some (.p (.bool true)) := by kernel_rfl
theorem tail5 (n a b : Int) : (tailN (En L) 1000 5 7 [.p (.int .i64 0)] st0 (sets n a b 5)).map (·.1) = Option.some (.p (.bool true)) := by kernel_rfl
theorem tail6 (n a b : Int) : (tailN (En L) 1000 5 7 [.p (.int .i64 0)] st0 (sets n a b 6)).map (·.1) = Option.some (.p (.bool true)) := by kernel_rfl
theorem tail7 (n a b : Int) : (tailN (En L) 1000 5 7 [.p (.int .i64 0)] st0 (sets n a b 7)).map (·.1) = Option.some (.p (.bool true)) := by kernel_rfl
theorem tail8 (n a b : Int) : (tailN (En L) 1000 5 7 [.p (.int .i64 0)] st0 (sets n a b 8)).map (·.1) = Option.some (.p (.bool true)) := by kernel_rfl
theorem tail (n a b k : Int) (h0 : 0 ≤ k) (h1 : k < 9) : (tailN (En L) 1000 5 7 [.p (.int .i64 0)] st0 (sets n a b k)).map (·.1) = Option.some (.p (.bool true)) := by
  have h : k = 0 ∨ k = 1 ∨ k = 2 ∨ k = 3 ∨ k = 4 ∨ k = 5 ∨ k = 6 ∨ k = 7 ∨ k = 8 := by omega
  rcases h with rfl | rfl | rfl | rfl | rfl | rfl | rfl | rfl | rfl
  · exact tail0 n a b
  · exact tail1 n a b
  · exact tail2 n a b
  · exact tail3 n a b
  · exact tail4 n a b
  · exact tail5 n a b
  · exact tail6 n a b
  · exact tail7 n a b
  · exact tail8 n a b
theorem run (n : Int) : ∃ st', callN (En L) 1001 5 [.p (.int .i64 n)] st0 = Option.some (.p (.bool true), st') := by
  obtain ⟨h0, h1⟩ := pick_range (m := 9) (by decide) (by decide) n
  rw [callN_cut rfl (head n) (some n)]
  exact of_map (tail n _ _ _ h0 h1)
end Go.Proofs.YtmnkgecogbhbnaaDoor.parseBinds
