/- Texts of one claim, slimmed and merged by slim.py. -/
import Derived.Test.YtiaccdaeomaogaaDoorP22
import Derived.Test.YtiaccdaeomaogaaDoorPProgWants1
namespace Go.Proofs.YtiaccdaeomaogaaDoor.F
open Go.RowKit Go.Proofs.YtiaccdaeomaogaaDoorW.PrintWords Go.Proofs.YtiaccdaeomaogaaDoorW.PrintLast Go.Proofs.YtiaccdaeomaogaaDoorW.PrintMore
set_option linter.unusedVariables false
set_option linter.unusedSimpArgs false
theorem etaE (x : S34) : (⟨x.f0, x.f1, x.f2, x.f3⟩ : S34) = x := by cases x; rfl
theorem goP_none (s : S67) (pc left n len : Int) (hw : ¬ (s.f0 = 0 ∨ s.f0 = 3 ∨ s.f0 = 4 ∨ s.f0 = 5)) (h7 : ¬ s.f0 = 7) : (goP s pc left n len).2.1 = [] := by
  unfold goP
  rw [if_neg hw, if_neg h7]
  (repeat' split) <;> rfl
theorem ProgWants_pure (s : S67) (l1 : List S69) (hI : OkI s.f3) (hE : OkC l1) : ∃ k, malthouselaw11_ProgWants.f k s.f0 s.f1 s.f2 s.f3.f0 s.f3.f1 s.f3.f2 s.f3.f3 s.f4 l1 = some true := by
  suffices h : Tot (fun k => malthouselaw11_ProgWants.f k s.f0 s.f1 s.f2 s.f3.f0 s.f3.f1 s.f3.f2 s.f3.f3 s.f4 l1) true by
    obtain ⟨K, hK⟩ := h; exact ⟨K, hK K (Nat.le_refl _)⟩
  obtain ⟨b1, hb1, k1⟩ := Light11_tot [s] (fun y hy => by rw [List.mem_singleton.mp hy]; exact hI)
  obtain ⟨b2, hb2, k2⟩ := cells11_tot l1
  have es : (⟨s.f0, s.f1, s.f2, s.f3, s.f4⟩ : S67) = s := rfl
  have J : Tot (fun k => malthouselaw11_ProgWants.j0 k l1 true true s.f0 s.f1 s.f2 s.f3.f0 s.f3.f1 s.f3.f2 s.f3.f3 s.f4) true := Tot.succ (by simp only [malthouselaw11_ProgWants.j0, if_true]; exact Tot.const _)
  unfold malthouselaw11_ProgWants.f
  simp only [etaE, es]
  refine Tot.bind awake11_tot (Tot.bind hb1 (Tot.bind hb2 ?_))
  simp only [if_true]
  cases b1 with
  | false => simp only [if_neg (show ¬ (false = true) by decide)]; exact J
  | true =>
  cases b2 with
  | false => exact J
  | true =>
  simp only [if_true, Bool.not_true]
  refine Tot.succ ?_
  simp only [malthouselaw11_ProgWants.j0, if_neg (show ¬ (false = true) by decide), etaE, es]
  have hs : OkE s.f3 := ((k1 rfl).2 s (.head _)).1
  have hR : RightP [s] 0 0 := ⟨by decide, by simp, by decide, .inl rfl⟩
  have ht := scan_tot (en := l1) hR (fun y hy => by rw [List.mem_singleton.mp hy]; exact hs) hE
  obtain ⟨v1, v2⟩ := evV_tot hs hE
  have e0 : rd_T67 [s] 0 = s := rfl
  have hp : ¬ (0 : Int) = (([s] : List S67).length : Int) := by simp
  unfold scanP at ht
  rw [if_neg hp, e0] at ht
  refine Tot.bind ht (Tot.bind v1 ?_)
  have R : ∀ b : Bool, b = (s.f0 == 0 || s.f0 == 3 || s.f0 == 4 || s.f0 == 5) → Tot (fun k => malthouselaw11_ProgWants.j1 k (if (numP l1 s 0).2 = 0 then (if (goP s 0 0 (numP l1 s 0).1 (([s] : List S67).length : Int)).2.2 = 0 then ((goP s 0 0 (numP l1 s 0).1 (([s] : List S67).length : Int)).1.1, (goP s 0 0 (numP l1 s 0).1 (([s] : List S67).length : Int)).1.2, (goP s 0 0 (numP l1 s 0).1 (([s] : List S67).length : Int)).2.1, ((goP s 0 0 (numP l1 s 0).1 (([s] : List S67).length : Int)).1.1 == (([s] : List S67).length : Int)), (0 : Int)) else (0, 0, [], false, 1)) else (0, 0, [], false, (numP l1 s 0).2)).2.2.1 (if (numP l1 s 0).2 = 0 then (if (goP s 0 0 (numP l1 s 0).1 (([s] : List S67).length : Int)).2.2 = 0 then ((goP s 0 0 (numP l1 s 0).1 (([s] : List S67).length : Int)).1.1, (goP s 0 0 (numP l1 s 0).1 (([s] : List S67).length : Int)).1.2, (goP s 0 0 (numP l1 s 0).1 (([s] : List S67).length : Int)).2.1, ((goP s 0 0 (numP l1 s 0).1 (([s] : List S67).length : Int)).1.1 == (([s] : List S67).length : Int)), (0 : Int)) else (0, 0, [], false, 1)) else (0, 0, [], false, (numP l1 s 0).2)).2.2.2.2 (evV l1 s.f3).1 (evV l1 s.f3).2 s.f0 b s.f0 s.f1 s.f2 s.f3.f0 s.f3.f1 s.f3.f2 s.f3.f3 s.f4) true := by
    intro b hb
    refine Tot.succ ?_
    simp only [malthouselaw11_ProgWants.j1]
    by_cases hw : s.f0 = 0 ∨ s.f0 = 3 ∨ s.f0 = 4 ∨ s.f0 = 5
    · obtain rfl : b = true := by rw [hb]; simp; omega
      unfold numP goP reck
      have hr : decide (0 ≤ s.f0 ∧ s.f0 ≤ 5) = true := decide_eq_true (by omega)
      simp only [hr, if_pos (And.intro rfl rfl : true = true ∧ (0 : Int) = 0), if_pos hw, if_true]
      by_cases hz : (evV l1 s.f3).2 = 0
      · simp only [if_pos hz, List.length_singleton, rd_T72]
        exact ⟨0, fun k _ => by simp [hz, show wrap64 1 = 1 by unfold wrap64; omega]⟩
      · simp only [if_neg hz]
        exact ⟨0, fun k _ => by simp [hz]⟩
    obtain rfl : b = false := by rw [hb]; simp; omega
    simp only [if_neg (show ¬ (false = true) by decide)]
    by_cases h7 : s.f0 = 7
    · unfold numP goP reck
      have hr : decide (0 ≤ s.f0 ∧ s.f0 ≤ 5) = false := decide_eq_false (by omega)
      simp only [hr, if_neg hw, if_neg (show ¬ (false = true ∧ (0 : Int) = 0) by decide), if_pos h7, if_true, List.length_singleton, rd_T72]
      exact ⟨0, fun k _ => by simp⟩
    simp only [if_neg h7]
    refine ⟨0, fun k _ => ?_⟩
    have hg := goP_none s 0 0 (numP l1 s 0).1 (([s] : List S67).length : Int) hw h7
    generalize goP s 0 0 (numP l1 s 0).1 (([s] : List S67).length : Int) = g at hg ⊢
    (split <;> try split) <;> simp [hg]
  by_cases h0 : s.f0 = 0
  · simp only [if_pos h0]; exact R _ (by simp [h0])
  by_cases h3 : s.f0 = 3
  · simp only [if_neg h0, if_pos h3]; exact R _ (by simp [h3])
  by_cases h4 : s.f0 = 4
  · simp only [if_neg h0, if_neg h3, if_pos h4]; exact R _ (by simp [h4])
  · simp only [if_neg h0, if_neg h3, if_neg h4]; exact R _ (by simp [h0, h3, h4])
end Go.Proofs.YtiaccdaeomaogaaDoor.F
