/- Texts of one claim, slimmed and merged by slim.py. -/
import Derived.SizedLaws
import Derived.Test.YtiaccdaeomaogaaDoorU4
import Derived.Test.YtiaccdaeomaogaaDoorU13
namespace Go.Proofs.YtiaccdaeomaogaaDoor.F
open Go.RowKit Go.Proofs.YtiaccdaeomaogaaDoorW.PrintWords Go.Proofs.YtiaccdaeomaogaaDoorW.PrintLast Go.Proofs.YtiaccdaeomaogaaDoorW.PrintMore
attribute [local go_sem] max2_int min2_int max_two min_two max_three min_three max_four min_four   -- for this text's walks alone
set_option linter.unusedVariables false
set_option linter.unusedSimpArgs false
def malthouselaw11_names.l0 : Nat → List ByteArray → Int → Option (Bool)
  | 0, _, _ => none
  | k + 1, x0, x3 => if x3 < (x0.length : Int) then (if 0 ≤ x3 then (if ((rdOf ByteArray.empty x0 x3).size : Int) > 200 then (some false) else (malthouselaw11_names.l0 k x0 (wrap64 (x3 + 1)))) else (none)) else (some true)
def malthouselaw11_names.f (k : Nat) (l0 : List ByteArray) : Option (Bool) := if (l0.length : Int) > 100 then (some false) else (malthouselaw11_names.l0 k l0 0)
set_option maxHeartbeats 8000000 in
set_option maxRecDepth 100000 in
theorem malthouselaw11_names.calls (k : Nat) (A0 : Option Addr) (c0 : Nat) (l0 : List ByteArray) (r : Bool) (w : World) (hr0 : Kd.C Kd.string w A0 l0.length l0) (hc0 : l0.length ≤ c0) (h : malthouselaw11_names.f k l0 = some r) :
  Calls Tryd.prog 43 #[.slice A0 l0.length c0] w fun e w' => e = .returned (.bool r) ∧ Drawn0 w w' := by
 have HR0 := Aside0.mk hr0
 have HC0 := Aside0.mk hc0
 clear hr0 hc0
 have H : (if (l0.length : Int) > 100 then (some false) else (malthouselaw11_names.l0 k l0 0)) = some r := h
 clear h
 by_cases c2 : (l0.length : Int) > 100
 ·rw [if_pos c2] at H
  have c2b0 : decide (100 < (l0.length : Int)) = true := decide_eq_true c2
  have c2b1 : decide (100 < l0.length) = true := decide_eq_true (by omega)
  clear c2
  obtain rfl := Option.some.inj H
  go_enter Tryd.func43, Tryd.ntmps43
  go_wp2
  go_ret
  exact ⟨by first | rfl | (simp; done) | (simp [*]; done), by repeat (first | exact Drawn0.refl _ | apply Drawn0.step)⟩
 rw [if_neg c2] at H
 have c2b0 : decide (100 < (l0.length : Int)) = false := decide_eq_false c2
 have c2b1 : decide (100 < l0.length) = false := decide_eq_false (by omega)
 clear c2
 have H' := Aside0.mk H
 clear H
 go_enter Tryd.func43, Tryd.ntmps43
 go_wp2
 go_loopg [3] k (fun kq v3 w' => ∃ (x3_1 : Int), v3 = .int .i64 x3_1 ∧ Aside0 (malthouselaw11_names.l0 kq l0 x3_1 = some r) ∧ Aside0 (kq ≤ k) ∧ Drawn0 w w')
 case atStart => exact ⟨(0), qv, H', ⟨Nat.le_refl _⟩, by repeat (first | exact Drawn0.refl _ | apply Drawn0.step)⟩
 case round =>
  clear H'
  obtain ⟨x3_1, rfl, HA, HK1, ⟨m1, rfl⟩⟩ := hrel
  cases gk with
  | zero => exact absurd HA.out (by simp [malthouselaw11_names.l0])
  | succ k1 =>
   have H := HA.out
   clear HA
   simp only [malthouselaw11_names.l0] at H
   by_cases c3 : x3_1 < (l0.length : Int)
   ·rw [if_pos c3] at H
    have c3b0 : decide (x3_1 < (l0.length : Int)) = true := decide_eq_true c3
    clear c3
    by_cases c4 : 0 ≤ x3_1
    ·rw [if_pos c4] at H
     have c4b0 : decide (0 ≤ x3_1) = true := decide_eq_true c4
     clear c4
     by_cases c5 : ((rdOf ByteArray.empty l0 x3_1).size : Int) > 200
     ·rw [if_pos c5] at H
      have c5b0 : decide (200 < ((rdOf ByteArray.empty l0 x3_1).size : Int)) = true := decide_eq_true c5
      have c5b1 : decide (200 < (rdOf ByteArray.empty l0 x3_1).size) = true := decide_eq_true (by omega)
      clear c5
      obtain rfl := Option.some.inj H
      have p101 : 0 ≤ (x3_1 : Int) := qa
      have q101 : x3_1 < (l0.length : Int) := qa
      obtain ⟨ad101, e101, hx101_0⟩ := Kd.at_string HR0.out x3_1 p101 q101
      cases e101
      replace p101 := eq_true p101
      replace q101 := eq_true q101
      go_wp2
      go_ret
      exact ⟨by first | rfl | (simp; done) | (simp [*]; done), by repeat (first | exact Drawn0.refl _ | apply Drawn0.step)⟩
     rw [if_neg c5] at H
     have c5b0 : decide (200 < ((rdOf ByteArray.empty l0 x3_1).size : Int)) = false := decide_eq_false c5
     have c5b1 : decide (200 < (rdOf ByteArray.empty l0 x3_1).size) = false := decide_eq_false (by omega)
     clear c5
     have H' := Aside0.mk H
     clear H
     have p101 : 0 ≤ (x3_1 : Int) := qa
     have q101 : x3_1 < (l0.length : Int) := qa
     obtain ⟨ad101, e101, hx101_0⟩ := Kd.at_string HR0.out x3_1 p101 q101
     cases e101
     replace p101 := eq_true p101
     replace q101 := eq_true q101
     go_wp2
     go_roundg k1
     case measure => have := HK1.out; omega
     case rel => exact ⟨(wrap64 (x3_1 + 1)), qv, H', ⟨by have := HK1.out; omega⟩, by repeat (first | exact Drawn0.refl _ | apply Drawn0.step)⟩
    rw [if_neg c4] at H
    exact absurd H (by simp)
   rw [if_neg c3] at H
   have c3b0 : decide (x3_1 < (l0.length : Int)) = false := decide_eq_false c3
   clear c3
   obtain rfl := Option.some.inj H
   go_wp2
   go_ret
   exact ⟨by first | rfl | (simp; done) | (simp [*]; done), by repeat (first | exact Drawn0.refl _ | apply Drawn0.step)⟩
end Go.Proofs.YtiaccdaeomaogaaDoor.F
namespace Go.Proofs.YtiaccdaeomaogaaDoor.F
open Go.RowKit Go.Proofs.YtiaccdaeomaogaaDoorW.PrintWords Go.Proofs.YtiaccdaeomaogaaDoorW.PrintLast Go.Proofs.YtiaccdaeomaogaaDoorW.PrintMore Go.Deep Go.ChangeShapes Go.WideShapes
set_option linter.unusedVariables false
set_option linter.unusedSimpArgs false
section
variable {H : Type} {enc : TypeId × Value → H} {P : Program} {w : World} {base : Nat} {spare : Nat → Bool} {held : Bool}
theorem agg_cells (cs : Array Value) : (Value.cells (.agg cs)).toList = cs.toList := rfl
theorem arr_eq {cs : Array Value} {l : List Value} (h : (Value.cells (.agg cs)).toList = l) : cs = l.toArray := by
  rw [agg_cells] at h; rw [← h]
end
section
variable {H : Type} {enc : TypeId × Value → H} {P : Program} {w : World} {base : Nat} {spare : Nat → Bool} {held : Bool}
theorem cells_known : Tryd.prog.cellsOf 75 = 3 := by kernel_rfl
theorem cells_sstr : Tryd.prog.cellsOf 23 = 1 := by kernel_rfl
theorem strs_cells {fuel : Nat} {cs : List Value} {x : DataW H × List MemPlace} (h : DataW.trod enc Tryd.prog w base spare held fuel 23 cs = some x) :
    ∃ (A : Option Addr) (c : Nat) (l : List ByteArray), cs = [.slice A l.length c] ∧ (l.length ≤ c ∧ l.length ≤ maxLen) ∧ Kd.string.C w A l.length l ∧ ∀ y ∈ l, y.size ≤ maxLen :=
  slice_cells ByteArray.empty Tryd.underlying23 (by rw [cells_str]; rfl) (fun m _ => str_item m) h
theorem known_arg {fuel : Nat} {cs : Array Value} {x : DataW H × List MemPlace} (h : DataW.trod enc Tryd.prog w base spare held fuel 75 (Value.cells (.agg cs)).toList = some x) :
    ∃ (A0 : Option Addr) (c0 : Nat) (l0 : List ByteArray) (A1 : Option Addr) (c1 : Nat) (l1 : List ByteArray) (A2 : Option Addr) (c2 : Nat) (l2 : List ByteArray),
      cs = #[.slice A0 l0.length c0, .slice A1 l1.length c1, .slice A2 l2.length c2] ∧ (l0.length ≤ c0 ∧ Kd.string.C w A0 l0.length l0) ∧ (l1.length ≤ c1 ∧ Kd.string.C w A1 l1.length l1) ∧ (l2.length ≤ c2 ∧ Kd.string.C w A2 l2.length l2) := by
  obtain ⟨xs, n, hn, _, hl, hx, hf⟩ := DataW.trod_struct Tryd.underlying75 h
  rw [cells_known] at hl
  have hx4 : xs.length = 3 := hx
  generalize hcs : (Value.cells (.agg cs)).toList = cl at *
  have h0 : DataW.trod enc Tryd.prog w base spare held n 23 ((cl.drop 0).take (Tryd.prog.cellsOf 23)) = xs[0]? := hf 0 _ rfl
  have h1 : DataW.trod enc Tryd.prog w base spare held n 23 ((cl.drop 1).take (Tryd.prog.cellsOf 23)) = xs[1]? := hf 1 _ rfl
  have h2 : DataW.trod enc Tryd.prog w base spare held n 23 ((cl.drop 2).take (Tryd.prog.cellsOf 23)) = xs[2]? := hf 2 _ rfl
  rw [cells_sstr] at h0 h1 h2
  rw [List.getElem?_eq_getElem (by omega)] at h0 h1 h2
  obtain ⟨A0, c0, l0, e0, b0, g0, _⟩ := strs_cells h0
  obtain ⟨A1, c1, l1, e1, b1, g1, _⟩ := strs_cells h1
  obtain ⟨A2, c2, l2, e2, b2, g2, _⟩ := strs_cells h2
  obtain ⟨d0, d1, d2, rfl⟩ := len3 hl
  simp at e0 e1 e2
  rw [e0, e1, e2] at hcs
  exact ⟨A0, c0, l0, A1, c1, l1, A2, c2, l2, arr_eq hcs, ⟨b0.1, g0⟩, ⟨b1.1, g1⟩, ⟨b2.1, g2⟩⟩
end
end Go.Proofs.YtiaccdaeomaogaaDoor.F
