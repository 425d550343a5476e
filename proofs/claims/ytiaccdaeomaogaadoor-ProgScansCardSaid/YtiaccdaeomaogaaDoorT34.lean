/- Texts of one claim, slimmed and merged by slim.py. -/
import Derived.SizedLaws
import Derived.Test.YtiaccdaeomaogaaDoorT13
namespace Go.Proofs.YtiaccdaeomaogaaDoor.F
open Go.RowKit Go.Proofs.YtiaccdaeomaogaaDoorW.PrintWords Go.Proofs.YtiaccdaeomaogaaDoorW.PrintLast Go.Proofs.YtiaccdaeomaogaaDoorW.PrintMore Go.Deep Go.ChangeShapes Go.WideShapes
set_option linter.unusedVariables false
set_option linter.unusedSimpArgs false
section
variable {H : Type} {enc : TypeId × Value → H} {P : Program} {w : World} {base : Nat} {spare : Nat → Bool} {held : Bool}
theorem agg_cells (cs : Array Value) : (Value.cells (.agg cs)).toList = cs.toList := rfl
theorem arr_eq {cs : Array Value} {l : List Value} (h : (Value.cells (.agg cs)).toList = l) : cs = l.toArray := by
  rw [agg_cells] at h; rw [← h]
end
section
variable {H : Type} {enc : TypeId × Value → H} {P : Program} {w : World} {base : Nat} {spare : Nat → Bool} {held : Bool}
theorem cells_mach : Tryd.prog.cellsOf 57 = 2 := by kernel_rfl
theorem mach_item (fuel : Nat) (cs : List Value) (x : DataW H × List MemPlace) (h : DataW.trod enc Tryd.prog w base spare held fuel 57 cs = some x) : ∃ a b : Int, cs = [.int .i64 a, .int .i64 b] ∧ I64 a ∧ I64 b := by
  obtain ⟨xs, n, hn, _, hl, hx, hf⟩ := DataW.trod_struct Tryd.underlying57 h
  rw [cells_mach] at hl
  have hx4 : xs.length = 2 := hx
  have h0 : DataW.trod enc Tryd.prog w base spare held n 3 ((cs.drop 0).take (Tryd.prog.cellsOf 3)) = xs[0]? := hf 0 _ rfl
  have h1 : DataW.trod enc Tryd.prog w base spare held n 3 ((cs.drop 1).take (Tryd.prog.cellsOf 3)) = xs[1]? := hf 1 _ rfl
  rw [cells_int] at h0
  rw [cells_int] at h1
  rw [List.getElem?_eq_getElem (by omega)] at h0 h1
  obtain ⟨a0, e0, _, w0⟩ := DataW.trod_int Tryd.underlying3 h0
  obtain ⟨a1, e1, _, w1⟩ := DataW.trod_int Tryd.underlying3 h1
  obtain ⟨d0, d1, rfl⟩ := len2 hl
  simp at e0 e1
  rw [e0, e1]
  exact ⟨a0, a1, rfl, wf_I64 w0, wf_I64 w1⟩
theorem mach_arg {fuel : Nat} {cs : Array Value} {x : DataW H × List MemPlace} (h : DataW.trod enc Tryd.prog w base spare held fuel 57 (Value.cells (.agg cs)).toList = some x) :
    ∃ a b : Int, cs = #[.int .i64 a, .int .i64 b] ∧ I64 a ∧ I64 b := by
  obtain ⟨a, b, e, ha, hb⟩ := mach_item _ _ _ h
  exact ⟨a, b, arr_eq e, ha, hb⟩
end
end Go.Proofs.YtiaccdaeomaogaaDoor.F
