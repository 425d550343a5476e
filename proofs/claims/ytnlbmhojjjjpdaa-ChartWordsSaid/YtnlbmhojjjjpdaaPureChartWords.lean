/- Of any two commands the one goes ahead that the document says; states and commands have the names that it says; for every input. -/
import Derived.Test.YtnlbmhojjjjpdaaFmalthouselaw10ChartWords
import Derived.Test.YtnlbmhojjjjpdaaChartA
namespace Go.Proofs.Ytnlbmhojjjjpdaa.Pure
open Go.RowKit Go.Proofs.Ytnlbmhojjjjpdaa.F Go.Proofs.YtnlbmhojjjjpdaaW.PrintWords Go.Proofs.YtnlbmhojjjjpdaaW.PrintLast
def cmdsP : List Int := [6, 5, 3, 1, 4, 2, 0, 7]
def strongP (a b : Int) : List Int → Int
  | [] => -1
  | c :: l => if a = c then c else if b = c then c else strongP a b l
theorem strong_l0 (a b : Int) (d : Nat) : ∀ (k i : Nat), i + d = 8 → d < k → chart_Stronger.l0 k a b cmdsP 8 (i : Int) = some (strongP a b (cmdsP.drop i)) := by
  induction d with
  | zero =>
    intro k i h0 hk
    obtain ⟨k, rfl⟩ : ∃ m, k = m + 1 := ⟨k - 1, by omega⟩
    obtain rfl : i = 8 := by omega
    simp only [chart_Stronger.l0]
    rw [if_neg (by decide)]; rfl
  | succ d ih =>
    intro k i h0 hk
    obtain ⟨k, rfl⟩ : ∃ m, k = m + 1 := ⟨k - 1, by omega⟩
    have hi : i < cmdsP.length := by show i < 8; omega
    have hrd : rd cmdsP (i : Int) = cmdsP[i] := by simp [rd, hi]
    simp only [chart_Stronger.l0]
    rw [if_pos (by omega), if_pos (by omega), if_pos (by show (i : Int) < 8; omega), hrd, List.drop_eq_getElem_cons hi, show wrap64 ((i : Int) + 1) = ((i + 1 : Nat) : Int) from by unfold wrap64; omega, ih k (i + 1) (by omega) (by omega)]
    simp only [strongP]
    by_cases h1 : a = cmdsP[i] <;> by_cases h2 : b = cmdsP[i] <;> simp [h1, h2]
theorem refStrong_l0 (a b : Int) (d : Nat) : ∀ (k i : Nat), i + d = 8 → d < k → malthouseref10_Stronger.l0 k a b cmdsP (i : Int) = some (strongP a b (cmdsP.drop i)) := by
  induction d with
  | zero =>
    intro k i h0 hk
    obtain ⟨k, rfl⟩ : ∃ m, k = m + 1 := ⟨k - 1, by omega⟩
    obtain rfl : i = 8 := by omega
    simp only [malthouseref10_Stronger.l0]
    rw [if_neg (by decide)]; rfl
  | succ d ih =>
    intro k i h0 hk
    obtain ⟨k, rfl⟩ : ∃ m, k = m + 1 := ⟨k - 1, by omega⟩
    have hi : i < cmdsP.length := by show i < 8; omega
    have hrd : rd cmdsP (i : Int) = cmdsP[i] := by simp [rd, hi]
    simp only [malthouseref10_Stronger.l0]
    rw [if_pos (by show (i : Int) < 8; omega), if_pos (by omega), hrd, List.drop_eq_getElem_cons hi, show wrap64 ((i : Int) + 1) = ((i + 1 : Nat) : Int) from by unfold wrap64; omega, ih k (i + 1) (by omega) (by omega)]
    simp only [strongP]
    by_cases h1 : a = cmdsP[i] <;> by_cases h2 : b = cmdsP[i] <;> simp [h1, h2]
theorem names_same (s : Int) : chart_Name.f s = malthouseref10_Name.f s := by
  rcases state_cases s with (h | h) | rfl | rfl | rfl | rfl | rfl | rfl | rfl | rfl | rfl | rfl | rfl | rfl
  · unfold chart_Name.f malthouseref10_Name.f
    simp only [Option.bind_some]
    rw [if_pos h]; iterate 12 rw [if_neg (by omega)]
  · unfold chart_Name.f malthouseref10_Name.f
    simp only [Option.bind_some]
    rw [if_neg (by omega), if_pos (by simp; omega)]; iterate 12 rw [if_neg (by omega)]
  all_goals rfl
theorem words_same (s : Int) : chart_Word.f s = malthouseref10_Word.f s := by
  rcases cmd_cases s with (h | h) | rfl | rfl | rfl | rfl | rfl | rfl | rfl | rfl
  · unfold chart_Word.f malthouseref10_Word.f
    simp only [Option.bind_some]
    rw [if_pos h]; iterate 8 rw [if_neg (by omega)]
  · unfold chart_Word.f malthouseref10_Word.f
    simp only [Option.bind_some]
    rw [if_neg (by omega), if_pos (by simp; omega)]; iterate 8 rw [if_neg (by omega)]
  all_goals rfl
theorem name_some (s : Int) : ∃ b, malthouseref10_Name.f s = some b := by
  rcases state_cases s with h | rfl | rfl | rfl | rfl | rfl | rfl | rfl | rfl | rfl | rfl | rfl | rfl
  · refine ⟨⟨#[]⟩, ?_⟩
    unfold malthouseref10_Name.f
    iterate 12 rw [if_neg (by omega)]
  all_goals exact ⟨_, rfl⟩
theorem word_some (s : Int) : ∃ b, malthouseref10_Word.f s = some b := by
  rcases cmd_cases s with h | rfl | rfl | rfl | rfl | rfl | rfl | rfl | rfl
  · refine ⟨⟨#[]⟩, ?_⟩
    unfold malthouseref10_Word.f
    iterate 8 rw [if_neg (by omega)]
  all_goals exact ⟨_, rfl⟩

theorem ChartWords : malthouselaw10_ChartWords.Pure := by
  intro a b _ _
  refine ⟨40, ?_⟩
  have e1 : chart_Stronger.f 40 a b = some (strongP a b cmdsP) := strong_l0 a b 8 40 0 (by omega) (by omega)
  have e2 : malthouseref10_Stronger.f 40 a b = some (strongP a b cmdsP) := refStrong_l0 a b 8 40 0 (by omega) (by omega)
  obtain ⟨n, hn⟩ := name_some a
  obtain ⟨m, hm⟩ := word_some a
  unfold malthouselaw10_ChartWords.f
  rw [awake_ge (by omega), e1, e2, names_same, words_same, hn, hm]
  simp
end Go.Proofs.Ytnlbmhojjjjpdaa.Pure
