/- Texts of one claim, slimmed and merged by slim.py. -/
import Derived.Test.YtiaccdaeomaogaaDoorA29
import Derived.Test.YtiaccdaeomaogaaDoorAPhaseStarts1
namespace Go.Proofs.YtiaccdaeomaogaaDoor.F
open Go.RowKit Go.Proofs.YtiaccdaeomaogaaDoorW.PrintWords Go.Proofs.YtiaccdaeomaogaaDoorW.PrintLast Go.Proofs.YtiaccdaeomaogaaDoorW.PrintMore
set_option linter.unusedVariables false
set_option linter.unusedSimpArgs false
theorem phNext_reset (s : Int) : phNext s 7 = if s = 8 ∨ s = 10 ∨ s = 11 then (0, true) else (0, false) := by
  unfold phNext
  rw [if_neg (by omega), if_neg (by omega), if_neg (by omega), if_neg (by omega), if_neg (by omega), if_neg (by omega), if_neg (by omega), if_neg (by omega)]
  by_cases h : s = 8 ∨ s = 10 ∨ s = 11
  · rw [if_pos ⟨rfl, h⟩, if_pos h]
  · rw [if_neg (fun g => h g.2), if_neg h]
theorem PhaseStarts_pure (x : Ph) (l : List S69) : ∃ k, malthouselaw12_PhaseStarts.f k x.st x.rp x.rl x.mp x.ml x.man x.code x.args l = some true := by
  suffices h : Tot (fun k => malthouselaw12_PhaseStarts.f k x.st x.rp x.rl x.mp x.ml x.man x.code x.args l) true by
    obtain ⟨K, hK⟩ := h; exact ⟨K, hK K (Nat.le_refl _)⟩
  obtain ⟨b1, hb1, k1⟩ := Cells12_tot x.args
  obtain ⟨b2, hb2, k2⟩ := Cells12_tot l
  have J : Tot (fun k => malthouselaw12_PhaseStarts.j0 k l true true x.st x.rp x.rl x.mp x.ml x.man x.code x.args) true := Tot.succ (by simp only [malthouselaw12_PhaseStarts.j0, if_true]; exact Tot.const _)
  unfold malthouselaw12_PhaseStarts.f
  refine Tot.bind awake12_tot (Tot.bind hb1 (Tot.bind hb2 ?_))
  simp only [if_true]
  cases b1 with
  | false => simp only [if_neg (show ¬ (false = true) by decide)]; exact J
  | true =>
  simp only [if_true]
  cases b2 with
  | false => exact J
  | true =>
  obtain ⟨a1, a2⟩ := k1 rfl
  obtain ⟨c1, c2⟩ := k2 rfl
  refine Tot.succ ?_
  simp only [malthouselaw12_PhaseStarts.j0, Bool.not_true, if_neg (show ¬ (false = true) by decide)]
  refine Tot.bind (Command_tot x 7 (by omega)) ?_
  by_cases h : x.st = 8 ∨ x.st = 10 ∨ x.st = 11
  · have ec : cmdP x 7 = (⟨0, 0, 0, 0, 0, x.man, 0, []⟩, 0) := by unfold cmdP; rw [phNext_reset, if_pos h]; rfl
    rw [ec]
    simp only [if_true]
    refine Tot.bind (Same12_refl 0 0 0 0 0 x.man 0 [] (by simp)) ?_
    have e := start_eq ⟨0, 0, 0, 0, 0, x.man, 0, []⟩ l c2 (by omega)
    simp only [] at e
    simp only [e, Option.bind_some]
    unfold startP
    simp only [if_true]
    by_cases ha : argsP l = true
    · simp only [if_pos ha, if_true]
      refine Tot.bind (Same12_refl 1 0 0 0 0 x.man 0 l (by omega)) ?_
      have := args_len ha
      simp only [if_true, decide_eq_true (show (l.length : Int) ≤ 4 by omega)]; exact Tot.const _
    · simp only [if_neg ha, if_neg (show ¬ (1 : Int) = 0 by decide), beq_self_eq_true]; exact Tot.const _
  · have ec : cmdP x 7 = (Ph.o, 100) := by unfold cmdP; rw [phNext_reset, if_neg h]; rfl
    rw [ec]
    simp only [if_neg (show ¬ (100 : Int) = 0 by decide), if_neg (show ¬ x.st = 8 from fun g => h (.inl g)), if_neg (show ¬ x.st = 10 from fun g => h (.inr (.inl g))), bne_iff_ne.mpr (show x.st ≠ 11 from fun g => h (.inr (.inr g)))]
    exact Tot.const _
end Go.Proofs.YtiaccdaeomaogaaDoor.F
