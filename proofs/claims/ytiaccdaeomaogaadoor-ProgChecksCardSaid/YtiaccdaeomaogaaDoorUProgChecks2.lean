/- Texts of one claim, slimmed and merged by slim.py. -/
import Derived.Test.YtiaccdaeomaogaaDoorU33
import Derived.Test.YtiaccdaeomaogaaDoorUProgChecks1
namespace Go.Proofs.YtiaccdaeomaogaaDoor.F
open Go.RowKit Go.Proofs.YtiaccdaeomaogaaDoorW.PrintWords Go.Proofs.YtiaccdaeomaogaaDoorW.PrintLast Go.Proofs.YtiaccdaeomaogaaDoorW.PrintMore
set_option linter.unusedVariables false
set_option linter.unusedSimpArgs false
theorem names11_tot (l : List ByteArray) : ∃ b, Tot (fun k => malthouselaw11_names.f k l) b ∧ (b = true → l.length ≤ 100) := by
  unfold malthouselaw11_names.f
  by_cases h : (l.length : Int) > 100
  · simp only [if_pos h]; exact ⟨false, Tot.const _, fun h => by cases h⟩
  · simp only [if_neg h]
    have L : ∀ (m i : Nat), i + m = l.length → ∃ b, Tot (fun k => malthouselaw11_names.l0 k l (i : Int)) b := by
      intro m
      induction m with
      | zero => intro i e; exact ⟨true, Tot.succ (by simp only [malthouselaw11_names.l0, if_neg (show ¬ (i : Int) < (l.length : Int) by omega)]; exact Tot.const _)⟩
      | succ m ih =>
        intro i e
        by_cases hn : ((rdOf ByteArray.empty l (i : Int)).size : Int) > 200
        · exact ⟨false, Tot.succ (by simp only [malthouselaw11_names.l0, if_pos (show (i : Int) < (l.length : Int) by omega), if_pos (show 0 ≤ (i : Int) by omega), if_pos hn]; exact Tot.const _)⟩
        · obtain ⟨b, hb⟩ := ih (i + 1) (by omega)
          exact ⟨b, Tot.succ (by simp only [malthouselaw11_names.l0, if_pos (show (i : Int) < (l.length : Int) by omega), if_pos (show 0 ≤ (i : Int) by omega), if_neg hn, w1 (show 0 ≤ (i : Int) by omega) (show (i : Int) < 9223372036854775807 by omega)]; exact hb)⟩
    obtain ⟨b, hb⟩ := L l.length 0 (by omega)
    exact ⟨b, hb, fun _ => by omega⟩
theorem ProgChecks_pure (l0 : List S67) (o v c : List ByteArray) (hI : ∀ y ∈ l0, OkI y.f3) : ∃ k, malthouselaw11_ProgChecks.f k l0 o v c = some true := by
  suffices h : Tot (fun k => malthouselaw11_ProgChecks.f k l0 o v c) true by
    obtain ⟨K, hK⟩ := h; exact ⟨K, hK K (Nat.le_refl _)⟩
  obtain ⟨b1, hb1, k1⟩ := Light11_tot l0 hI
  obtain ⟨b2, hb2, k2⟩ := names11_tot o
  obtain ⟨b3, hb3, k3⟩ := names11_tot v
  obtain ⟨b4, hb4, k4⟩ := names11_tot c
  have J : Tot (fun k => malthouselaw11_ProgChecks.j0 k l0 true true o v c) true := Tot.succ (by simp only [malthouselaw11_ProgChecks.j0, if_true]; exact Tot.const _)
  unfold malthouselaw11_ProgChecks.f
  refine Tot.bind awake11_tot (Tot.bind hb1 (Tot.bind hb2 (Tot.bind hb3 (Tot.bind hb4 ?_))))
  simp only [if_true]
  cases b1 with
  | false => simp only [ff]; exact J
  | true =>
  cases b2 with
  | false => simp only [ff, if_true]; exact J
  | true =>
  cases b3 with
  | false => simp only [ff, if_true]; exact J
  | true =>
  cases b4 with
  | false => simp only [if_true]; exact J
  | true =>
  simp only [if_true, Bool.not_true]
  refine Tot.succ ?_
  simp only [malthouselaw11_ProgChecks.j0, ff]
  obtain ⟨hl, hs⟩ := k1 rfl
  have ho := k2 rfl
  have hv := k3 rfl
  have hc := k4 rfl
  obtain ⟨b, e1, e2⟩ := ends_both l0 (by omega)
  refine Tot.bind (checkA o v c l0 (by omega) (by omega) (by omega) hs) (Tot.bind (checkB o v c l0 (by omega) (by omega) (by omega) hs) ?_)
  simp only [if_true]
  exact Tot.bind e1 (Tot.bind e2 (by simp only [beq_self_eq_true]; exact Tot.const _))
end Go.Proofs.YtiaccdaeomaogaaDoor.F
