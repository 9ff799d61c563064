/-
  The evaluator's tables for this program, and that they are right.
-/
import Derived.Test.YtepnpbhfopcjlaaDoorAe6
import Derived.Test.YtepnpbhfopcjlaaDoorRows
import Derived.KernelRfl
namespace Go.Proofs.YtepnpbhfopcjlaaDoor
open Go Go.AE

def tiL : List (Nat × TI) := [(2, ⟨1, 8, false, true, (.int .i64), [(.int .i64 0)]⟩), (3, ⟨1, 8, false, true, (.int .i64), [(.int .i64 0)]⟩), (4, ⟨1, 1, false, true, .bool, [(.bool false)]⟩), (9, ⟨1, 16, false, true, .str, [(.str [])]⟩), (27, ⟨1, 16, false, true, (.iface true), [.nilif]⟩), (31, ⟨1, 24, false, false, (.slice 3), [(.list .nil [])]⟩), (36, ⟨3, 32, true, true, (.struct [(0, 3), (1, 2), (2, 9)]), [(.int .i64 0), (.int .i64 0), (.str [])]⟩), (37, ⟨1, 24, false, false, (.slice 39), [(.list .nil [])]⟩), (39, ⟨8, 88, true, false, (.struct [(0, 3), (1, 3), (2, 3), (3, 3), (4, 36), (7, 37)]), [(.int .i64 0), (.int .i64 0), (.int .i64 0), (.int .i64 0), (.int .i64 0), (.int .i64 0), (.str []), (.list .nil [])]⟩), (76, ⟨1, 24, false, false, (.slice 36), [(.list .nil [])]⟩), (92, ⟨3, 24, true, true, (.struct [(0, 3), (1, 4), (2, 3)]), [(.int .i64 0), (.bool false), (.int .i64 0)]⟩), (117, ⟨1, 8, false, false, .func, [.nilfn]⟩), (134, ⟨1, 8, false, true, (.ptr 138), [.nilp]⟩), (138, ⟨2, 24, true, true, (.struct [(0, 3), (1, 27)]), [(.int .i64 0), .nilif]⟩), (151, ⟨1, 24, false, false, (.slice 27), [(.list .nil [])]⟩), (202, ⟨1, 8, false, true, (.ptr 218), [.nilp]⟩), (218, ⟨1, 16, true, true, (.struct [(0, 9)]), [(.str [])]⟩)]
def annL : List (Nat × Ann) := [(6, { frz := [(5, 2), (6, 3)] }), (20, { imm := [(0, 0)], frz := [(13, 3)], clear := [(2, [14, 15, 16, 6, 17, 18, 19, 24, 25, 4, 26]), (12, [39, 40, 41, 8, 42, 43, 44, 9, 45, 46, 47, 4, 48])] }), (37, { imm := [(0, 0)] }), (38, { frz := [(1, 2)] }), (39, { imm := [(0, 0), (0, 1)], frz := [(1, 2)] }), (40, { imm := [(0, 0)] }), (41, { imm := [(0, 0)] }), (61, { imm := [(0, 0), (0, 1)] }), (63, { imm := [(0, 0)] }), (64, { imm := [(0, 0), (0, 1)] }), (67, { imm := [(0, 0)] }), (68, { imm := [(0, 0)] }), (94, { frz := [(1, 1)] }), (95, { clear := [(3, [6, 7, 8, 9, 12, 13, 14, 15, 16, 17, 18, 19, 2, 10, 11])] }), (97, { imm := [(0, 0), (0, 1)] }), (98, { clear := [(2, [9, 10, 5, 11, 12, 13, 14, 15, 16, 17, 4, 18])] }), (112, { clear := [(3, [9, 10, 11, 5, 12, 13, 14, 15, 2, 16])] })]
/-- The sentinels: name, number, text. -/
def sentL : List (String × Nat × List UInt8) := [("belvedere/api.ErrText", 4, [110, 111, 116, 32, 97, 115, 32, 105, 116, 32, 105, 115, 32, 119, 114, 105, 116, 116, 101, 110]), ("belvedere/api.ErrType", 2, [116, 121, 112, 101, 115, 32, 116, 104, 97, 116, 32, 100, 111, 32, 110, 111, 116, 32, 102, 105, 116]), ("belvedere/api.ErrName", 3, [97, 32, 110, 97, 109, 101, 32, 116, 104, 97, 116, 32, 105, 115, 32, 110, 111, 98, 111, 100, 121, 39, 115]), ("belvedere/api.ErrTwice", 5, [97, 32, 110, 97, 109, 101, 32, 116, 119, 105, 99, 101]), ("belvedere/api.ErrUse", 8, [97, 32, 116, 97, 98, 108, 101, 32, 116, 104, 97, 116, 32, 105, 115, 32, 117, 115, 101, 100]), ("belvedere/api.ErrArity", 1, [99, 111, 108, 117, 109, 110, 115, 32, 116, 104, 97, 116, 32, 97, 114, 101, 32, 116, 111, 111, 32, 109, 97, 110, 121, 44, 32, 111, 114, 32, 116, 111, 111, 32, 102, 101, 119]), ("belvedere/api.ErrOver", 9, [97, 32, 110, 117, 109, 98, 101, 114, 32, 98, 101, 121, 111, 110, 100, 32, 105, 116, 115, 32, 98, 111, 117, 110, 100, 115]), ("belvedere/api.ErrFull", 0, [109, 111, 114, 101, 32, 114, 111, 119, 115, 32, 116, 104, 97, 110, 32, 109, 97, 121, 32, 98, 101]), ("belvedere/api.ErrPending", 10, [97, 32, 109, 105, 103, 114, 97, 116, 105, 111, 110, 32, 105, 115, 32, 117, 110, 100, 101, 114, 32, 119, 97, 121]), ("belvedere/api.ErrNone", 11, [110, 111, 32, 109, 105, 103, 114, 97, 116, 105, 111, 110, 32, 105, 115, 32, 117, 110, 100, 101, 114, 32, 119, 97, 121]), ("belvedere/api.ErrLimit", 6, [109, 111, 114, 101, 32, 116, 104, 97, 110, 32, 109, 97, 121, 32, 98, 101])]
noncomputable def En (L : List (Nat × List UInt8)) : AE.En := { P := Tryd.prog, T := fun t => find t tiL, G := fun g => match (find g L).isSome with | true => some [.iface 202 (.sptr g)] | false => none, A := fun f => (find f annL).getD {}, summ := fun _ => none }

theorem ti_ok : tiL.map (fun q => tiOf Tryd.prog q.1) = tiL.map fun q => some q.2 := by kernel_rfl
theorem names_ok : (Tryd.prog.funcs.toList.all fun fn => !(fn.name == "runtime.NumGoroutine")) = true := by kernel_rfl
theorem text_ok : (Tryd.prog.funcs.toList.all fun fn => match fn.body with | some b => codeOk b | none => true) = true := by kernel_rfl
theorem mixed_ok : Tryd.prog.follows .mixedOrders = true := by kernel_rfl
theorem row202 : ∀ u, Tryd.prog.typeName? 3 u = some "*errors.errorString" → u = 202 :=
  typeName_ptr_named (nm := "errors.errorString") (by kernel_rfl) (by kernel_rfl) (by decide)
noncomputable def kW (L : List (Nat × List UInt8)) (W : World) : K := { E := En L, base := W.heap.size, w0 := W, sg := sgOf L W }

theorem En_ok {L : List (Nat × List UInt8)} {W : World} (h : Sents W 202 L) (hnd : ∀ p ∈ L, ∀ q ∈ L, p.2 = q.2 → p.1 = q.1) : Ok (kW L W) where
  base := {
    ty := fun t ti ht => List.map_inj_left.1 ti_ok (t, ti) (find_mem ht)
    gl := fun g cs hg => by
      simp only [kW, En] at hg
      split at hg
      · rename_i hs
        simp only [Option.some.injEq] at hg
        subst hg
        exact sent_gl (k := kW L W) h rfl rfl rfl hs
      · cases hg
    sg := sent_sg (k := kW L W) h rfl rfl rfl hnd }
  name := fun f fn hf => by
    have := List.all_eq_true.1 names_ok fn (by rw [← Array.getElem?_toList] at hf; exact List.mem_of_getElem? hf)
    simpa using this
  text := fun f fn b hf hb => by
    have := List.all_eq_true.1 text_ok fn (by rw [← Array.getElem?_toList] at hf; exact List.mem_of_getElem? hf)
    rw [hb] at this
    exact this
  mixed := mixed_ok
  summ := fun f s hs => by cases hs
end Go.Proofs.YtepnpbhfopcjlaaDoor
