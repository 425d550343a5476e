/- Texts of one claim, slimmed and merged by slim.py. -/
import Derived.Test.YtiaccdaeomaogaaDoorP22
import Derived.Test.YtiaccdaeomaogaaDoorPProgStays1
namespace Go.Proofs.YtiaccdaeomaogaaDoor.F
open Go.RowKit Go.Proofs.YtiaccdaeomaogaaDoorW.PrintWords Go.Proofs.YtiaccdaeomaogaaDoorW.PrintLast Go.Proofs.YtiaccdaeomaogaaDoorW.PrintMore
set_option linter.unusedVariables false
set_option linter.unusedSimpArgs false
theorem stays_l0 {l : List S67} {en : List S69} (hl : l.length ≤ 100) (hE : ∀ s ∈ l, OkE s.f3) (he : OkC en) (scans : Int) (h60 : scans ≤ 60) : ∀ (m : Nat) (i pc left : Int), 0 ≤ i → scans - i ≤ m → RightP l pc left → I64 left → Tot (fun k => malthouselaw11_ProgStays.l0 k l en scans (pc == (l.length : Int)) i pc left) true
  | 0, i, pc, left, h0, hm, hR, hL => Tot.succ (by simp only [malthouselaw11_ProgStays.l0, if_neg (show ¬ i < scans by omega)]; exact Tot.const _)
  | m + 1, i, pc, left, h0, hm, hR, hL => by
    by_cases hi : i < scans
    case neg => exact Tot.succ (by simp only [malthouselaw11_ProgStays.l0, if_neg hi]; exact Tot.const _)
    have hw : wrap64 (i + 1) = i + 1 := by unfold wrap64; omega
    have ih := fun pc left hR hL => stays_l0 hl hE he scans h60 m (i + 1) pc left (by omega) (by omega) hR hL
    have ht := scan_tot hR hE he
    obtain ⟨f1, f2, f3⟩ := scan_facts (en := en) hR hl (by unfold I64 at hL; omega)
    have f4 := scan_left (l := l) (pc := pc) hL he hE hR
    refine Tot.succ ?_
    simp only [malthouselaw11_ProgStays.l0, if_pos hi, hw]
    by_cases hp : pc = (l.length : Int)
    · have e := f3 hp
      rw [e] at ht
      refine Tot.bind ht ?_
      obtain ⟨b, hb, eb⟩ := right_tot l pc left
      obtain rfl : b = true := eb.mpr hR
      have e1 : (pc == (l.length : Int)) = true := beq_iff_eq.mpr hp
      have := ih pc left hR hL
      rw [e1] at this
      simp only [if_true, hb, Option.bind_some, e1, List.length_nil, Int.natCast_zero, beq_self_eq_true, Bool.not_true, Bool.or_self, bne_self_eq_false, if_neg (show ¬ (false = true) by decide), if_neg (show ¬ (0 : Int) > 1 by decide)]
      exact this
    · have e1 : (pc == (l.length : Int)) = false := beq_eq_false_iff_ne.mpr hp
      generalize hv : scanP l pc left en = v at ht f1 f2 f4
      refine Tot.bind ht ?_
      by_cases hz : v.2.2.2.2 = 0
      · obtain ⟨g1, g2, g3⟩ := f1 hz
        obtain ⟨b, hb, eb⟩ := right_tot l v.1 v.2.1
        obtain rfl : b = true := eb.mpr g1
        have := ih v.1 v.2.1 g1 f4
        rw [← g2] at this
        simp only [if_pos hz, hb, Option.bind_some, if_true, e1, if_neg (show ¬ (false = true) by decide), g2, bne_self_eq_false, if_neg (show ¬ (v.2.2.1.length : Int) > 1 by omega)]
        rw [← g2]
        exact this
      · obtain ⟨g1, g2, g3, g4, g5⟩ := f2 hz
        obtain ⟨b, hb, eb⟩ := right_tot l pc left
        obtain rfl : b = true := eb.mpr hR
        have := ih pc left hR hL
        rw [e1] at this
        simp only [if_neg hz, g1, g2, g3, g4, e1, beq_self_eq_true, Bool.not_true, Bool.or_self, if_neg (show ¬ (false = true) by decide), List.length_nil, Int.natCast_zero, if_true, hb, Option.bind_some, bne_self_eq_false, if_neg (show ¬ (0 : Int) > 1 by decide)]
        exact this
theorem ProgStays_pure (l0 : List S67) (pc left : Int) (l2 : List S69) (scans : Int) (hI : ∀ y ∈ l0, OkI y.f3) (hL : I64 left) (hE : OkC l2) : ∃ k, malthouselaw11_ProgStays.f k l0 pc left l2 scans = some true := by
  suffices h : Tot (fun k => malthouselaw11_ProgStays.f k l0 pc left l2 scans) true by
    obtain ⟨K, hK⟩ := h; exact ⟨K, hK K (Nat.le_refl _)⟩
  obtain ⟨b1, hb1, k1⟩ := Light11_tot l0 hI
  obtain ⟨b2, hb2, k2⟩ := cells11_tot l2
  have J : Tot (fun k => malthouselaw11_ProgStays.j0 k l0 l2 scans true true pc left) true := Tot.succ (by simp only [malthouselaw11_ProgStays.j0, if_true]; exact Tot.const _)
  unfold malthouselaw11_ProgStays.f
  refine Tot.bind awake11_tot (Tot.bind hb1 (Tot.bind hb2 ?_))
  simp only [if_true]
  cases b1 with
  | false => simp only [if_neg (show ¬ (false = true) by decide)]; exact J
  | true =>
  cases b2 with
  | false => simp only [if_neg (show ¬ (false = true) by decide), if_true]; exact J
  | true =>
  simp only [if_true]
  by_cases hc : scans > 60
  · simp only [if_pos hc]; exact J
  simp only [if_neg hc]
  obtain ⟨b, hb, eb⟩ := right_tot l0 pc left
  simp only [hb, Option.bind_some]
  cases b with
  | false => exact J
  | true =>
    refine Tot.succ ?_
    simp only [malthouselaw11_ProgStays.j0, Bool.not_true, if_neg (show ¬ (false = true) by decide)]
    exact stays_l0 (k1 rfl).1 (fun s hs => ((k1 rfl).2 s hs).1) hE scans (by omega) scans.toNat 0 pc left (by omega) (by omega) (eb.mp rfl) hL
end Go.Proofs.YtiaccdaeomaogaaDoor.F
