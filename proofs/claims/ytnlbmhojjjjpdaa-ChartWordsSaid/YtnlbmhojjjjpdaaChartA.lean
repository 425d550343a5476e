/- What the chart's functions come to, as plain tables. -/
import Derived.Test.YtnlbmhojjjjpdaaFchartNext
import Derived.Test.YtnlbmhojjjjpdaaFchartEdge
import Derived.Test.YtnlbmhojjjjpdaaFchartWord
import Derived.Test.YtnlbmhojjjjpdaaFmalthouseref10Edge
import Derived.Test.YtnlbmhojjjjpdaaFmalthouseref10Word
import Derived.Test.YtnlbmhojjjjpdaaFmalthouseref10Name
import Derived.Test.YtnlbmhojjjjpdaaFmalthouseref10Stronger
import Derived.Test.YtnlbmhojjjjpdaaFmalthouseref10Quiet
import Derived.Test.YtnlbmhojjjjpdaaFmalthouseref10Acting
import Derived.Test.YtnlbmhojjjjpdaaFmalthouselaw10awake
import Derived.Test.YtnlbmhojjjjpdaaFchartQuiet
namespace Go.Proofs.Ytnlbmhojjjjpdaa.Pure
open Go.RowKit Go.Proofs.Ytnlbmhojjjjpdaa.F Go.Proofs.YtnlbmhojjjjpdaaW.PrintWords Go.Proofs.YtnlbmhojjjjpdaaW.PrintLast
set_option linter.unusedVariables false
set_option linter.unusedSimpArgs false

theorem awake_20 : malthouselaw10_awake.f 20 = some true := by decide +kernel
theorem awake_ge {k : Nat} (h : 20 ≤ k) : malthouselaw10_awake.f k = some true := at_rounds (fun k => malthouselaw10_awake.mono k) h awake_20
def nextP (s c : Int) : Int × Bool :=
  if c = 0 then (if s = 0 then (1, true) else (0, false)) else
  if c = 1 then (if s = 1 then (2, true) else (0, false)) else
  if c = 2 then (if s = 3 then (1, true) else (0, false)) else
  if c = 3 then (if s = 1 ∨ s = 2 ∨ s = 3 ∨ s = 6 then (4, true) else (0, false)) else
  if c = 4 then (if s = 5 then (6, true) else (0, false)) else
  if c = 5 then (if 1 ≤ s ∧ s ≤ 6 then (7, true) else (0, false)) else
  if c = 6 then (if 1 ≤ s ∧ s ≤ 7 then (9, true) else (0, false)) else
  if c = 7 then (if s = 8 ∨ s = 10 ∨ s = 11 then (0, true) else (0, false)) else (0, false)
theorem state_cases (s : Int) : (s < 0 ∨ 12 ≤ s) ∨ s = 0 ∨ s = 1 ∨ s = 2 ∨ s = 3 ∨ s = 4 ∨ s = 5 ∨ s = 6 ∨ s = 7 ∨ s = 8 ∨ s = 9 ∨ s = 10 ∨ s = 11 := by omega
theorem cmd_cases (c : Int) : (c < 0 ∨ 8 ≤ c) ∨ c = 0 ∨ c = 1 ∨ c = 2 ∨ c = 3 ∨ c = 4 ∨ c = 5 ∨ c = 6 ∨ c = 7 := by omega
def rowsP : List S80 := [⟨0, 0, 1⟩, ⟨1, 1, 2⟩, ⟨2, 3, 1⟩, ⟨4, 5, 6⟩, ⟨3, 1, 4⟩, ⟨3, 2, 4⟩, ⟨3, 3, 4⟩, ⟨3, 6, 4⟩, ⟨6, 7, 9⟩, ⟨7, 8, 0⟩, ⟨7, 10, 0⟩, ⟨7, 11, 0⟩]
/-- The first row that fits, from some place on. -/
def findP (s c : Int) : List S80 → Int × Bool
  | [] => (0, false)
  | r :: l => if r.f0 = c ∧ r.f1 = s then (r.f2, true) else findP s c l
theorem l0_find (s c : Int) (d : Nat) : ∀ (k : Nat) (i : Nat), i + d = 12 → d < k → chart_Next.l0 k s c rowsP 12 (i : Int) = some (findP s c (rowsP.drop i)) := by
  induction d with
  | zero =>
    intro k i h0 hk
    obtain ⟨k, rfl⟩ : ∃ m, k = m + 1 := ⟨k - 1, by omega⟩
    obtain rfl : i = 12 := by omega
    simp only [chart_Next.l0]
    rw [if_neg (by decide)]; rfl
  | succ d ih =>
    intro k i h0 hk
    obtain ⟨k, rfl⟩ : ∃ m, k = m + 1 := ⟨k - 1, by omega⟩
    have hi : i < rowsP.length := by show i < 12; omega
    have hrd : rd_T80 rowsP (i : Int) = rowsP[i] := by simp [rd_T80, hi]
    simp only [chart_Next.l0]
    rw [if_pos (by omega), if_pos (by omega), if_pos (by show (i : Int) < 12; omega), hrd, List.drop_eq_getElem_cons hi, show wrap64 ((i : Int) + 1) = ((i + 1 : Nat) : Int) from by unfold wrap64; omega, ih k (i + 1) (by omega) (by omega)]
    simp only [findP]
    by_cases h1 : rowsP[i].f0 = c <;> by_cases h2 : rowsP[i].f1 = s <;> simp [h1, h2]
theorem find_rows (s c : Int) (h : ¬ ((1 ≤ s ∧ s ≤ 6) ∧ (c = 5 ∨ c = 6))) : findP s c rowsP = nextP s c := by
  unfold rowsP nextP
  simp only [findP]
  rcases cmd_cases c with hc | rfl | rfl | rfl | rfl | rfl | rfl | rfl | rfl <;> rcases state_cases s with hs | rfl | rfl | rfl | rfl | rfl | rfl | rfl | rfl | rfl | rfl | rfl | rfl
  all_goals first
    | rfl
    | exact absurd h (by decide)
    | (repeat (first | rfl | (rw [if_neg (by omega)]) | (rw [if_pos (by omega)])))
theorem busy_f (s : Int) : chart_busy.f s = some (decide (1 ≤ s ∧ s ≤ 6)) := by
  unfold chart_busy.f
  by_cases h : s ≥ 1
  · rw [if_pos h]; congr 1; by_cases h2 : s ≤ 6 <;> simp [h2] <;> omega
  · rw [if_neg h]; congr 1; symm; exact decide_eq_false (by omega)
theorem Next_20 (s c : Int) : chart_Next.f 20 s c = some (nextP s c) := by
  have hl : chart_Next.l0 18 s c rowsP 12 0 = some (findP s c rowsP) := l0_find s c 12 18 0 (by omega) (by omega)
  have hl' : chart_Next.l0 17 s c rowsP 12 0 = some (findP s c rowsP) := l0_find s c 12 17 0 (by omega) (by omega)
  have hj : ∀ k, chart_Next.j1 (k + 1) s c = chart_Next.l0 k s c rowsP 12 0 := fun k => by simp only [chart_Next.j1]; rfl
  unfold chart_Next.f
  rw [busy_f]
  simp only [Option.bind_some]
  by_cases hb : 1 ≤ s ∧ s ≤ 6
  · rw [if_pos (by simp [hb])]
    by_cases h5 : c = 5
    · subst h5; simp only [chart_Next.j0]; unfold nextP; simp [hb]
    · rw [show (c == 5) = false from by simp [h5]]
      simp only [chart_Next.j0]
      rw [busy_f]; simp only [Option.bind_some]
      rw [if_neg (by decide), if_pos (by simp [hb])]
      by_cases h6 : c = 6
      · subst h6; rw [if_pos rfl]; unfold nextP; simp [hb]; omega
      · rw [if_neg h6, hj 18, hl, find_rows s c (by omega)]
  · rw [if_neg (by simp; omega)]
    simp only [chart_Next.j0]
    rw [busy_f]; simp only [Option.bind_some]
    rw [if_neg (by decide), if_neg (by simp; omega), hj 18, hl, find_rows s c (by omega)]
theorem Next_ge {k : Nat} (h : 20 ≤ k) (s c : Int) : chart_Next.f k s c = some (nextP s c) := at_rounds (fun k => chart_Next.mono s c k) h (Next_20 s c)
theorem refNext_20 (s c : Int) : malthouseref10_Next.f 20 s c = some (nextP s c) := by
  by_cases hc : c < 0 ∨ 8 ≤ c
  · have n0 : c ≠ 0 := by omega
    have n1 : c ≠ 1 := by omega
    have n2 : c ≠ 2 := by omega
    have n3 : c ≠ 3 := by omega
    have n4 : c ≠ 4 := by omega
    have n5 : c ≠ 5 := by omega
    have n6 : c ≠ 6 := by omega
    have n7 : c ≠ 7 := by omega
    unfold malthouseref10_Next.f nextP
    simp only [malthouseref10_Next.j0, if_neg n0, if_neg n1, if_neg n2, if_neg n3, if_neg n4, if_neg n5, if_neg n6, if_neg n7, ite_self]
  · by_cases hs : s < 0 ∨ 12 ≤ s
    · have m0 : s ≠ 0 := by omega
      have m1 : s ≠ 1 := by omega
      have m2 : s ≠ 2 := by omega
      have m3 : s ≠ 3 := by omega
      have m4 : s ≠ 4 := by omega
      have m5 : s ≠ 5 := by omega
      have m6 : s ≠ 6 := by omega
      have m7 : s ≠ 7 := by omega
      have m8 : s ≠ 8 := by omega
      have m10 : s ≠ 10 := by omega
      have m11 : s ≠ 11 := by omega
      have b1 : ¬ (1 ≤ s ∧ s ≤ 6) := by omega
      have b2 : ¬ (1 ≤ s ∧ s ≤ 7) := by omega
      rcases cmd_cases c with hc' | rfl | rfl | rfl | rfl | rfl | rfl | rfl | rfl
      · exact absurd hc' hc
      all_goals
        unfold malthouseref10_Next.f nextP
        simp [malthouseref10_Next.j0, malthouseref10_Next.j1, malthouseref10_Next.j2, malthouseref10_Next.j3, m0, m1, m2, m3, m4, m5, m6, m7, m8, m10, m11, b1, b2]
    · rcases cmd_cases c with hc' | rfl | rfl | rfl | rfl | rfl | rfl | rfl | rfl
      · exact absurd hc' hc
      all_goals
        rcases state_cases s with hs' | rfl | rfl | rfl | rfl | rfl | rfl | rfl | rfl | rfl | rfl | rfl | rfl
        · exact absurd hs' hs
        all_goals decide +kernel
theorem refNext_ge {k : Nat} (h : 20 ≤ k) (s c : Int) : malthouseref10_Next.f k s c = some (nextP s c) := at_rounds (fun k => malthouseref10_Next.mono s c k) h (refNext_20 s c)
def doneP (s : Int) : Int × Bool := if s = 1 then (11, true) else if s = 2 then (3, true) else if s = 4 then (5, true) else if s = 6 then (1, true) else if s = 7 then (8, true) else if s = 9 then (10, true) else (0, false)
theorem refDone_f (s : Int) : malthouseref10_Done.f s = some (doneP s) := by
  unfold malthouseref10_Done.f doneP
  by_cases h1 : s = 1 <;> by_cases h2 : s = 2 <;> by_cases h4 : s = 4 <;> by_cases h6 : s = 6 <;> by_cases h7 : s = 7 <;> by_cases h9 : s = 9 <;> simp_all
theorem Done_f (s : Int) : chart_Done.f s = some (doneP s) := by
  rcases state_cases s with hs | rfl | rfl | rfl | rfl | rfl | rfl | rfl | rfl | rfl | rfl | rfl | rfl
  · unfold chart_Done.f doneP
    repeat (rw [if_neg (by omega)])
  all_goals decide +kernel
def coldP (s : Int) : Int := if 1 ≤ s ∧ s ≤ 6 then 5 else if s = 7 then 8 else if s = 9 then 10 else s
theorem Cold_f (s : Int) : chart_Cold.f s = some (coldP s) := by
  unfold chart_Cold.f coldP
  rw [busy_f]; simp only [Option.bind_some]
  by_cases h : 1 ≤ s ∧ s ≤ 6
  · rw [if_pos (by simp [h]), if_pos h]
  · rw [if_neg (by simp; omega), if_neg h]
    by_cases h7 : s = 7
    · subst h7; decide +kernel
    · rw [if_neg h7, if_neg h7]
      by_cases h9 : s = 9
      · subst h9; decide +kernel
      · rw [if_neg h9, if_neg h9]
theorem refCold_20 (s : Int) : malthouseref10_Cold.f 20 s = some (coldP s) := by
  rcases state_cases s with hs | rfl | rfl | rfl | rfl | rfl | rfl | rfl | rfl | rfl | rfl | rfl | rfl
  · unfold malthouseref10_Cold.f coldP
    rw [if_neg (by omega), if_neg (by omega), if_neg (by omega), if_neg (by omega), show (s == 6) = false from by simp; omega]
    simp only [malthouseref10_Cold.j0]
    rw [if_neg (by decide), if_neg (by omega), if_neg (by omega), if_neg (by omega), if_neg (by omega), if_neg (by omega)]
  all_goals rfl
theorem refCold_ge {k : Nat} (h : 20 ≤ k) (s : Int) : malthouseref10_Cold.f k s = some (coldP s) := at_rounds (fun k => malthouseref10_Cold.mono s k) h (refCold_20 s)
/-- Does one of some commands lead there? -/
def someP (s t : Int) : List Int → Bool
  | [] => false
  | c :: l => if (nextP s c).2 = true ∧ (nextP s c).1 = t then true else someP s t l
def edgeP (s t : Int) : Bool := if s = t then false else if someP s t [0, 1, 2, 3, 4, 5, 6, 7] = true then true else if (doneP s).2 = true ∧ (doneP s).1 = t then true else coldP s == t
theorem edge_tail (s t : Int) : (doneP s).2 = true → (doneP s).1 = t → True := fun _ _ => trivial
theorem Edge_l0 (s t : Int) (d : Nat) : ∀ (k i : Nat), i + d = 8 → d + 20 < k → chart_Edge.l0 k s t (i : Int) = some (if someP s t (([0, 1, 2, 3, 4, 5, 6, 7] : List Int).drop i) = true then true else if (doneP s).2 = true ∧ (doneP s).1 = t then true else coldP s == t) := by
  induction d with
  | zero =>
    intro k i h0 hk
    obtain ⟨k, rfl⟩ : ∃ m, k = m + 1 := ⟨k - 1, by omega⟩
    obtain rfl : i = 8 := by omega
    simp only [chart_Edge.l0]
    rw [if_neg (by decide), Done_f, Cold_f]
    simp only [Option.bind_some, List.drop, someP]
    by_cases h1 : (doneP s).2 = true <;> by_cases h2 : (doneP s).1 = t <;> simp [h1, h2]
  | succ d ih =>
    intro k i h0 hk
    obtain ⟨k, rfl⟩ : ∃ m, k = m + 1 := ⟨k - 1, by omega⟩
    have hd : ([0, 1, 2, 3, 4, 5, 6, 7] : List Int).drop i = (i : Int) :: ([0, 1, 2, 3, 4, 5, 6, 7] : List Int).drop (i + 1) := by
      have : i = 0 ∨ i = 1 ∨ i = 2 ∨ i = 3 ∨ i = 4 ∨ i = 5 ∨ i = 6 ∨ i = 7 := by omega
      rcases this with rfl | rfl | rfl | rfl | rfl | rfl | rfl | rfl <;> rfl
    simp only [chart_Edge.l0]
    rw [if_pos (by omega), Next_ge (by omega)]
    simp only [Option.bind_some]
    rw [show wrap64 ((i : Int) + 1) = ((i + 1 : Nat) : Int) from by unfold wrap64; omega, ih k (i + 1) (by omega) (by omega), hd]
    simp only [someP]
    by_cases h1 : (nextP s i).2 = true <;> by_cases h2 : (nextP s i).1 = t <;> simp [h1, h2]
theorem Edge_ge {k : Nat} (h : 30 ≤ k) (s t : Int) : chart_Edge.f k s t = some (edgeP s t) := by
  unfold chart_Edge.f edgeP
  by_cases he : s = t
  · rw [if_pos he, if_pos he]
  · rw [if_neg he, if_neg he]
    exact Edge_l0 s t 8 k 0 (by omega) (by omega)
theorem refEdge_l0 (s t : Int) (d : Nat) : ∀ (k i : Nat), i + d = 8 → d + 20 < k → malthouseref10_Edge.l0 k s t (i : Int) = some (if someP s t (([0, 1, 2, 3, 4, 5, 6, 7] : List Int).drop i) = true then true else if (doneP s).2 = true ∧ (doneP s).1 = t then true else coldP s == t) := by
  induction d with
  | zero =>
    intro k i h0 hk
    obtain ⟨k, rfl⟩ : ∃ m, k = m + 1 := ⟨k - 1, by omega⟩
    obtain rfl : i = 8 := by omega
    simp only [malthouseref10_Edge.l0]
    rw [if_neg (by decide), refDone_f, refCold_ge (by omega)]
    simp only [Option.bind_some, List.drop, someP]
    by_cases h1 : (doneP s).2 = true <;> by_cases h2 : (doneP s).1 = t <;> simp [h1, h2]
  | succ d ih =>
    intro k i h0 hk
    obtain ⟨k, rfl⟩ : ∃ m, k = m + 1 := ⟨k - 1, by omega⟩
    have hd : ([0, 1, 2, 3, 4, 5, 6, 7] : List Int).drop i = (i : Int) :: ([0, 1, 2, 3, 4, 5, 6, 7] : List Int).drop (i + 1) := by
      have : i = 0 ∨ i = 1 ∨ i = 2 ∨ i = 3 ∨ i = 4 ∨ i = 5 ∨ i = 6 ∨ i = 7 := by omega
      rcases this with rfl | rfl | rfl | rfl | rfl | rfl | rfl | rfl <;> rfl
    simp only [malthouseref10_Edge.l0]
    rw [if_pos (by omega), refNext_ge (by omega)]
    simp only [Option.bind_some]
    rw [show wrap64 ((i : Int) + 1) = ((i + 1 : Nat) : Int) from by unfold wrap64; omega, ih k (i + 1) (by omega) (by omega), hd]
    simp only [someP]
    by_cases h1 : (nextP s i).2 = true <;> by_cases h2 : (nextP s i).1 = t <;> simp [h1, h2]
theorem refEdge_ge {k : Nat} (h : 30 ≤ k) (s t : Int) : malthouseref10_Edge.f k s t = some (edgeP s t) := by
  unfold malthouseref10_Edge.f edgeP
  by_cases he : s = t
  · rw [if_pos he, if_pos he]
  · rw [if_neg he, if_neg he]
    exact refEdge_l0 s t 8 k 0 (by omega) (by omega)
theorem quiet_same (s : Int) : malthouseref10_Quiet.f s = chart_Quiet.f s := rfl
theorem refActing_f (s : Int) : malthouseref10_Acting.f s = some (doneP s).2 := by unfold malthouseref10_Acting.f; rw [refDone_f]; rfl
theorem Acting_f (s : Int) : chart_Acting.f s = some (doneP s).2 := by unfold chart_Acting.f; rw [Done_f]; rfl

end Go.Proofs.Ytnlbmhojjjjpdaa.Pure
