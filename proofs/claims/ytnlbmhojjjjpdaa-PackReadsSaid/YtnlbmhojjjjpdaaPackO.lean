/- A row of things, opened. -/
import Derived.Test.YtnlbmhojjjjpdaaPackN
import Derived.Deep.Slices
import Derived.WalkKit
import Derived.ProofKit
import Derived.OpenShut
import Derived.ShutString
import Derived.ChangeOld
import Derived.Below
import Derived.SizedLaws
namespace Go.Proofs.Ytnlbmhojjjjpdaa.Pk
open Go.RowKit Go.Proofs.YtnlbmhojjjjpdaaW.PrintWords Go.Proofs.YtnlbmhojjjjpdaaW.PrintLast Go.Proofs.YtnlbmhojjjjpdaaW.PrintMore Go.Deep 
set_option linter.unusedVariables false
set_option linter.unusedSimpArgs false
instance : Inhabited S27 := ⟨z27⟩
theorem cells_item : Try.prog.cellsOf 27 = 5 := by kernel_rfl
theorem cells_t3 : Try.prog.cellsOf 3 = 1 := by kernel_rfl
theorem cells_t4 : Try.prog.cellsOf 4 = 1 := by kernel_rfl
theorem cells_t9 : Try.prog.cellsOf 9 = 1 := by kernel_rfl
theorem item_cells {H : Type} {enc : TypeId × Value → H} {w : World} {base : Nat} {spare : Nat → Bool} {held : Bool} {fuel : Nat} {cs : List Value} {x : DataW H × List MemPlace} (h : DataW.trod enc Try.prog w base spare held fuel 27 cs = some x) :
    ∃ y : S27, cs = [.int .i64 y.f0, .int .i64 y.f1, .bool y.f2, .string y.f3, .int .i64 y.f4] ∧ (Lit.int .i64 y.f1).wf = true ∧ (Lit.int .i64 y.f4).wf = true ∧ y.f3.size ≤ maxLen := by
  obtain ⟨xs, n, _, _, hl, hx, hf⟩ := DataW.trod_struct Try.underlying27 h
  rw [cells_item] at hl
  have hx5 : xs.length = 5 := hx
  have h0 : DataW.trod enc Try.prog w base spare held n 3 ((cs.drop 0).take (Try.prog.cellsOf 3)) = xs[0]? := hf 0 _ rfl
  have h1 : DataW.trod enc Try.prog w base spare held n 3 ((cs.drop 1).take (Try.prog.cellsOf 3)) = xs[1]? := hf 1 _ rfl
  have h2 : DataW.trod enc Try.prog w base spare held n 4 ((cs.drop 2).take (Try.prog.cellsOf 4)) = xs[2]? := hf 2 _ rfl
  have h3 : DataW.trod enc Try.prog w base spare held n 9 ((cs.drop 3).take (Try.prog.cellsOf 9)) = xs[3]? := hf 3 _ rfl
  have h4 : DataW.trod enc Try.prog w base spare held n 3 ((cs.drop 4).take (Try.prog.cellsOf 3)) = xs[4]? := hf 4 _ rfl
  rw [cells_t3] at h0 h1 h4
  rw [cells_t4] at h2
  rw [cells_t9] at h3
  rw [List.getElem?_eq_getElem (by omega)] at h0 h1 h2 h3 h4
  obtain ⟨a0, e0, _, w0⟩ := DataW.trod_int Try.underlying3 h0
  obtain ⟨a1, e1, _, w1⟩ := DataW.trod_int Try.underlying3 h1
  obtain ⟨a2, e2, _⟩ := DataW.trod_bool Try.underlying4 h2
  obtain ⟨a3, e3, _, w3⟩ := DataW.trod_string Try.underlying9 h3
  obtain ⟨a4, e4, _, w4⟩ := DataW.trod_int Try.underlying3 h4
  match cs, hl with
  | [c0, c1, c2, c3, c4], _ =>
    simp at e0 e1 e2 e3 e4
    exact ⟨⟨a0, a1, a2, a3, a4⟩, by rw [e0, e1, e2, e3, e4], w1, w4, w3⟩
theorem items_open {H : Type} {enc : TypeId × Value → H} {w : World} {base : Nat} {spare : Nat → Bool} {held : Bool} {fuel : Nat} {a : Option Addr} {len cap : Nat} {x : DataW H × List MemPlace} (h : DataW.trod enc Try.prog w base spare held fuel 22 (Value.cells (.slice a len cap)).toList = some x) :
    ∃ l : List S27, l.length = len ∧ len ≤ cap ∧ Kd.C k27 w a len l ∧ ∀ y ∈ l, (Lit.int .i64 y.f1).wf = true ∧ (Lit.int .i64 y.f4).wf = true ∧ y.f3.size ≤ maxLen := by
  rcases open_slice Try.underlying22 h with ⟨hcs, _⟩ | ⟨ad, l1, c1, m, n, D, Pl, hcs, _, hl, hm, hmm, _, hi⟩
  · simp [Value.cells] at hcs
    obtain ⟨rfl, rfl, rfl⟩ := hcs
    exact ⟨[], rfl, Nat.le_refl _, ⟨rfl, by omega, fun h => absurd h (Nat.lt_irrefl 0)⟩, fun y hy => nomatch hy⟩
  · simp [Value.cells] at hcs
    obtain ⟨rfl, rfl, rfl⟩ := hcs
    have hle : len ≤ m := by rw [hmm]; split <;> omega
    have hch : ∀ i, i < len → ∃ y : S27, w.cells? base (ad.add (i * 5)) 5 = some [.int .i64 y.f0, .int .i64 y.f1, .bool y.f2, .string y.f3, .int .i64 y.f4] ∧ (Lit.int .i64 y.f1).wf = true ∧ (Lit.int .i64 y.f4).wf = true ∧ y.f3.size ≤ maxLen := by
      intro i hlt
      obtain ⟨cs', h1, h2⟩ := hi i (by omega)
      rw [cells_item] at h1
      obtain ⟨y, rfl, h3⟩ := item_cells h2
      exact ⟨y, h1, h3⟩
    obtain ⟨Y, hY⟩ := choose_lt hch
    refine ⟨(List.range len).map Y, by simp, hl, ⟨by simp, by unfold maxLen at hm; omega, fun _ => ⟨ad, rfl, fun j p hp => ?_⟩⟩, fun y hy => ?_⟩
    · rw [List.getElem?_map] at hp
      have hj : j < len := by
        by_cases hj : j < len
        · exact hj
        · rw [List.getElem?_eq_none (by simp; omega)] at hp; simp at hp
      rw [List.getElem?_range hj] at hp
      simp at hp
      subst hp
      obtain ⟨h1, _⟩ := hY j hj
      refine ⟨_, rfl, k27_mk w (Y j), fun i u hu => ?_⟩
      have h2 := (World.cells?_some h1).2.2
      have hi5 : i < 5 := (List.getElem?_eq_some_iff.1 hu).1
      have h3 := h2 i hi5
      rw [Deep.add_add] at h3
      exact h3.trans hu
    · obtain ⟨i, hi, rfl⟩ := List.mem_map.mp hy
      exact (hY i (List.mem_range.mp hi)).2
end Go.Proofs.Ytnlbmhojjjjpdaa.Pk
