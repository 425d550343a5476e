/- Texts of one claim, slimmed and merged by slim.py. -/
import Derived.Test.YtiaccdaeomaogaaDoorT22
import Derived.Test.YtiaccdaeomaogaaDoorT31
import Derived.Test.YtiaccdaeomaogaaDoorTProgScans1
namespace Go.Proofs.YtiaccdaeomaogaaDoor.F
open Go.RowKit Go.Proofs.YtiaccdaeomaogaaDoorW.PrintWords Go.Proofs.YtiaccdaeomaogaaDoorW.PrintLast Go.Proofs.YtiaccdaeomaogaaDoorW.PrintMore
set_option linter.unusedVariables false
set_option linter.unusedSimpArgs false
theorem docReck (op : Int) : malthouseref11_reckons.f op = some (reck op) := by
  unfold malthouseref11_reckons.f reck
  by_cases h0 : op = 0
  · rw [if_pos h0, decide_eq_true (by omega)]
  by_cases h1 : op = 1
  · rw [if_neg h0, if_pos h1, decide_eq_true (by omega)]
  by_cases h2 : op = 2
  · rw [if_neg h0, if_neg h1, if_pos h2, decide_eq_true (by omega)]
  by_cases h3 : op = 3
  · rw [if_neg h0, if_neg h1, if_neg h2, if_pos h3, decide_eq_true (by omega)]
  by_cases h4 : op = 4
  · rw [if_neg h0, if_neg h1, if_neg h2, if_neg h3, if_pos h4, decide_eq_true (by omega)]
  by_cases h5 : op = 5
  · rw [if_neg h0, if_neg h1, if_neg h2, if_neg h3, if_neg h4, decide_eq_true (by omega)]; simp [h5]
  · rw [if_neg h0, if_neg h1, if_neg h2, if_neg h3, if_neg h4, decide_eq_false (by omega)]; simp [h5]
theorem docRight_tot (l : List S67) (pc left : Int) : ∃ b, prog_Right.f l pc left = some b ∧ Tot (fun k => malthouseref11_Right.f k l pc left) b := by
  have T : Tot (fun k => malthouseref11_Right.j0 k l true pc left) false := Tot.succ (by simp only [malthouseref11_Right.j0, if_true]; exact Tot.const _)
  unfold prog_Right.f malthouseref11_Right.f
  by_cases h0 : pc < 0
  · exact ⟨false, by rw [if_pos h0], by simp only [if_pos h0]; exact T⟩
  by_cases h1 : pc > (l.length : Int)
  · exact ⟨false, by rw [if_neg h0, if_pos h1], by simp only [if_neg h0, if_pos h1]; exact T⟩
  by_cases h2 : left < 0
  · exact ⟨false, by rw [if_neg h0, if_neg h1, if_pos h2], by simp only [if_neg h0, if_neg h1, decide_eq_true h2]; exact T⟩
  simp only [if_neg h0, if_neg h1, if_neg h2, decide_eq_false h2]
  by_cases h3 : left = 0
  · exact ⟨true, by rw [if_pos h3], Tot.succ (by simp only [malthouseref11_Right.j0, ff, if_pos h3]; exact Tot.const _)⟩
  by_cases h4 : pc < (l.length : Int)
  · exact ⟨_, by rw [if_neg h3, if_pos h4, if_pos (show 0 ≤ pc by omega)], Tot.succ (by simp only [malthouseref11_Right.j0, ff, if_neg h3, if_pos h4, if_pos (show 0 ≤ pc by omega)]; exact Tot.const _)⟩
  · exact ⟨false, by rw [if_neg h3, if_neg h4], Tot.succ (by simp only [malthouseref11_Right.j0, ff, if_neg h3, if_neg h4]; exact Tot.const _)⟩
def goR (s : S67) (pc left n len : Int) : Int × Int × List S72 × Bool × Int :=
  if (goP s pc left n len).2.2 = 0 then ((goP s pc left n len).1.1, (goP s pc left n len).1.2, (goP s pc left n len).2.1, ((goP s pc left n len).1.1 == len), 0) else (pc, left, [], false, 1)
theorem docJ2 {l : List S67} {s : S67} {pc left n : Int} {b : Bool} (hb : b = (s.f0 == 0 || s.f0 == 3 || s.f0 == 4 || s.f0 == 5)) : Tot (fun k => malthouseref11_Scan.j2 k l n ([] : List S72) s.f0 b pc left s.f0 s.f1 s.f2 s.f3.f0 s.f3.f1 s.f3.f2 s.f3.f3 s.f4 (wrap64 (pc + 1)) 0) (goR s pc left n l.length) := by
  refine Tot.succ ?_
  simp only [malthouseref11_Scan.j2]
  unfold goR goP
  by_cases hw : s.f0 = 0 ∨ s.f0 = 3 ∨ s.f0 = 4 ∨ s.f0 = 5
  · have hbt : b = true := by rw [hb]; simp; omega
    simp only [hbt, if_true, if_pos hw]; exact Tot.const _
  have hbf : b = false := by rw [hb]; simp; omega
  simp only [hbf, ff, if_neg hw]
  by_cases h7 : s.f0 = 7
  · simp only [if_pos h7, if_true]; exact Tot.const _
  by_cases h1 : s.f0 = 1
  · by_cases hn : n = 0
    · simp only [if_neg h7, if_pos h1, if_pos hn, if_true]; exact Tot.const _
    · simp only [if_neg h7, if_pos h1, if_neg hn, if_true]; exact Tot.const _
  by_cases h2 : s.f0 = 2
  · by_cases g1 : left > 1
    · simp only [if_neg h7, if_neg h1, if_pos h2, if_pos g1, if_neg (show ¬ left = 0 by omega), if_true]; exact Tot.const _
    · by_cases g2 : left = 0
      · by_cases g3 : n > 0
        · simp only [if_neg h7, if_neg h1, if_pos h2, if_neg g1, if_pos g2, if_pos g3, if_true]; exact Tot.const _
        · simp only [if_neg h7, if_neg h1, if_pos h2, if_neg g1, if_pos g2, if_neg g3, if_true]; exact Tot.const _
      · simp only [if_neg h7, if_neg h1, if_pos h2, if_neg g1, if_neg g2, if_true]; exact Tot.const _
  by_cases h6 : s.f0 = 6
  · by_cases g1 : s.f4 < 0
    · simp only [if_neg h7, if_neg h1, if_neg h2, if_pos h6, if_pos g1, if_neg (show ¬ (1 : Int) = 0 by decide)]; exact Tot.const _
    · by_cases g2 : s.f4 > (l.length : Int)
      · simp only [if_neg h7, if_neg h1, if_neg h2, if_pos h6, if_neg g1, if_pos g2, if_neg (show ¬ (1 : Int) = 0 by decide)]; exact Tot.const _
      · simp only [if_neg h7, if_neg h1, if_neg h2, if_pos h6, if_neg g1, if_neg g2, if_true]; exact Tot.const _
  · simp only [if_neg h7, if_neg h1, if_neg h2, if_neg h6, if_true]; exact Tot.const _
theorem docJ1 {l : List S67} {s : S67} {pc left n : Int} : Tot (fun k => malthouseref11_Scan.j1 k l n pc left s.f0 s.f1 s.f2 s.f3.f0 s.f3.f1 s.f3.f2 s.f3.f3 s.f4) (goR s pc left n l.length) := by
  refine Tot.succ ?_
  simp only [malthouseref11_Scan.j1]
  by_cases h0 : s.f0 = 0
  · simp only [if_pos h0]; exact docJ2 (by simp [h0])
  by_cases h3 : s.f0 = 3
  · simp only [if_neg h0, if_pos h3]; exact docJ2 (by simp [h3])
  by_cases h4 : s.f0 = 4
  · simp only [if_neg h0, if_neg h3, if_pos h4]; exact docJ2 (by simp [h4])
  · simp only [if_neg h0, if_neg h3, if_neg h4]; exact docJ2 (by simp [h0, h3, h4])
theorem docScan_tot {l : List S67} {pc left : Int} {en : List S69} (hR : RightP l pc left) (hE : ∀ s ∈ l, OkE s.f3) (he : OkC en) (hl : en.length < 9223372036854775807) : Tot (fun k => malthouseref11_Scan.f k l pc left en) (scanP l pc left en) := by
  obtain ⟨b, hb, ht⟩ := docRight_tot l pc left
  obtain ⟨b', hb', eb⟩ := right_tot l pc left
  obtain rfl : b = b' := Option.some.inj (hb.symm.trans hb')
  obtain rfl : b = true := eb.mpr hR
  unfold malthouseref11_Scan.f scanP
  refine Tot.bind ht ?_
  simp only [if_true]
  by_cases hp : pc = (l.length : Int)
  · simp only [if_pos hp]; exact Tot.const _
  have h0 := hR.1
  have h1 : pc < (l.length : Int) := by have := hR.2.1; omega
  simp only [if_neg hp, if_pos h0, if_pos h1]
  have hm : rd_T67 l pc ∈ l := by
    obtain ⟨i, rfl⟩ : ∃ i : Nat, pc = (i : Int) := ⟨pc.toNat, by omega⟩
    unfold rd_T67; rw [Int.toNat_natCast, List.getD, List.getElem?_eq_getElem (by omega)]; exact List.getElem_mem _
  obtain ⟨p, p1, p2, pi⟩ := eval_both (hE _ hm) he hl
  have ev := evV_eq p1
  generalize rd_T67 l pc = s at *
  rw [docReck]
  simp only [Option.bind_some]
  unfold numP
  by_cases hr : reck s.f0 = true
  · simp only [if_pos hr]
    refine Tot.succ ?_
    simp only [malthouseref11_Scan.j0]
    by_cases hz : left = 0
    · have e1 : (left == 0) = true := beq_iff_eq.mpr hz
      simp only [e1, if_true, if_pos (And.intro hr hz), ev]
      refine Tot.bind p2 ?_
      by_cases hq : p.2 = 0
      · simp only [if_pos hq]; exact docJ1
      · simp only [if_neg hq]; exact Tot.const _
    · have e1 : (left == 0) = false := beq_eq_false_iff_ne.mpr hz
      simp only [e1, ff, if_neg (show ¬ (reck s.f0 = true ∧ left = 0) from fun h => hz h.2), if_true]
      exact docJ1
  · have hr' : reck s.f0 = false := by simpa using hr
    simp only [hr', ff, if_neg (show ¬ (false = true ∧ left = 0) from fun h => nomatch h.1), if_true]
    refine Tot.succ ?_
    simp only [malthouseref11_Scan.j0, ff]
    exact docJ1
theorem Same_refl (l : List S72) (hl : l.length < 9223372036854775807) : Tot (fun k => malthouseref11_Same.f k l l) true := by
  have L : ∀ (n i : Nat), i + n = l.length → Tot (fun k => malthouseref11_Same.l0 k l l (i : Int)) true := by
    intro n
    induction n with
    | zero => intro i e; exact Tot.succ (by simp only [malthouseref11_Same.l0, if_neg (show ¬ (i : Int) < (l.length : Int) by omega)]; exact Tot.const _)
    | succ n ih =>
      intro i e
      refine Tot.succ ?_
      simp only [malthouseref11_Same.l0, if_pos (show (i : Int) < (l.length : Int) by omega), if_pos (show 0 ≤ (i : Int) by omega), beq_self_eq_true, Bool.not_true, Bool.or_self, ff, w1 (show 0 ≤ (i : Int) by omega) (show (i : Int) < 9223372036854775807 by omega)]
      exact ih (i + 1) (by omega)
  unfold malthouseref11_Same.f
  simp only [if_true]
  exact L l.length 0 (by omega)
theorem ProgScans_pure (l0 : List S67) (pc left : Int) (l2 : List S69) (hI : ∀ y ∈ l0, OkI y.f3) (hL : I64 left) (hE : OkC l2) : ∃ k, malthouselaw11_ProgScans.f k l0 pc left l2 = some true := by
  suffices h : Tot (fun k => malthouselaw11_ProgScans.f k l0 pc left l2) true by
    obtain ⟨K, hK⟩ := h; exact ⟨K, hK K (Nat.le_refl _)⟩
  obtain ⟨b1, hb1, k1⟩ := Light11_tot l0 hI
  obtain ⟨b2, hb2, k2⟩ := cells11_tot l2
  have J : Tot (fun k => malthouselaw11_ProgScans.j0 k l0 l2 true true pc left) true := Tot.succ (by simp only [malthouselaw11_ProgScans.j0, if_true]; exact Tot.const _)
  unfold malthouselaw11_ProgScans.f
  refine Tot.bind awake11_tot (Tot.bind hb1 (Tot.bind hb2 ?_))
  simp only [if_true]
  cases b1 with
  | false => simp only [ff]; exact J
  | true =>
  cases b2 with
  | false => exact J
  | true =>
  simp only [if_true, Bool.not_true]
  refine Tot.succ ?_
  simp only [malthouselaw11_ProgScans.j0, ff]
  obtain ⟨hl, hs⟩ := k1 rfl
  have hc := k2 rfl
  obtain ⟨b, hb, ht⟩ := docRight_tot l0 pc left
  obtain ⟨b', hb', eb⟩ := right_tot l0 pc left
  obtain rfl : b = b' := Option.some.inj (hb.symm.trans hb')
  have S : ∃ v : Int × Int × List S72 × Bool × Int, Tot (fun k => prog_Scan.f k l0 pc left l2) v ∧ Tot (fun k => malthouseref11_Scan.f k l0 pc left l2) v ∧ v.2.2.1.length ≤ 1 := by
    cases b with
    | true =>
      have hR := eb.mp rfl
      refine ⟨_, scan_tot hR (fun s h => (hs s h).1) hE, docScan_tot hR (fun s h => (hs s h).1) hE (by omega), ?_⟩
      obtain ⟨f1, f2, f3⟩ := scan_facts (en := l2) hR hl (by unfold I64 at hL; omega)
      by_cases hz : (scanP l0 pc left l2).2.2.2.2 = 0
      · exact (f1 hz).2.2
      · rw [(f2 hz).2.2.1]; simp
    | false =>
      refine ⟨(0, 0, [], false, 1), ?_, ?_, by simp⟩
      · unfold prog_Scan.f
        simp only [hb, Option.bind_some, ff]; exact Tot.const _
      · unfold malthouseref11_Scan.f
        exact Tot.bind ht (by simp only [ff]; exact Tot.const _)
  obtain ⟨v, v1, v2, v3⟩ := S
  refine Tot.bind v1 (Tot.bind v2 (Tot.bind (Same_refl v.2.2.1 (by omega)) ?_))
  simp only [if_true, beq_self_eq_true, Bool.and_self, hb, Option.bind_some]
  exact Tot.bind ht (by simp only [beq_self_eq_true]; exact Tot.const _)
end Go.Proofs.YtiaccdaeomaogaaDoor.F
