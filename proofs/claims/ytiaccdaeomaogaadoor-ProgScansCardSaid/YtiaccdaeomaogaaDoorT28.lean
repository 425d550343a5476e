/- Texts of one claim, slimmed and merged by slim.py. -/
import Derived.Test.YtiaccdaeomaogaaDoorT4
import Derived.Test.YtiaccdaeomaogaaDoorT25
import Derived.Test.YtiaccdaeomaogaaDoorT27
namespace Go.Proofs.YtiaccdaeomaogaaDoor.F
open Go.RowKit Go.Proofs.YtiaccdaeomaogaaDoorW.PrintWords Go.Proofs.YtiaccdaeomaogaaDoorW.PrintLast Go.Proofs.YtiaccdaeomaogaaDoorW.PrintMore
set_option linter.unusedVariables false
set_option linter.unusedSimpArgs false
def lineP (op : Int) : Int := if op = 16 then 1 else if op = 15 then 2 else if op ≥ 9 ∧ op ≤ 14 then 3 else if op = 4 ∨ op = 5 then 4 else if op ≥ 6 ∧ op ≤ 8 then 5 else 6
theorem lineP_le (op : Int) : lineP op ≤ 6 := by unfold lineP; (repeat' split) <;> omega
theorem ff {α : Type} {p q : α} : (if false = true then p else q) = q := if_neg (by decide)
theorem lineA_tot (op : Int) : Tot (fun k => expr_line.f k op) (lineP op) := by
  have J1 : ∀ b : Bool, Tot (fun k => expr_line.j1 k op b) (if b = true then 4 else if op ≥ 6 ∧ op ≤ 8 then 5 else 6) := fun b => by
    refine Tot.succ ?_
    cases b with
    | true => simp only [expr_line.j1, if_true]; exact Tot.const _
    | false =>
      by_cases h1 : op ≥ 6
      · by_cases h2 : op ≤ 8
        · simp only [expr_line.j1, ff, if_pos h1, if_pos h2, h1, h2, true_and, if_true]; exact Tot.const _
        · simp only [expr_line.j1, ff, if_pos h1, if_neg h2, if_neg (show ¬ (op ≥ 6 ∧ op ≤ 8) from fun h => h2 h.2)]; exact Tot.const _
      · simp only [expr_line.j1, ff, if_neg h1, if_neg (show ¬ (op ≥ 6 ∧ op ≤ 8) from fun h => h1 h.1)]; exact Tot.const _
  have J0 : ∀ b : Bool, Tot (fun k => expr_line.j0 k op b) (if b = true then 3 else if op = 4 ∨ op = 5 then 4 else if op ≥ 6 ∧ op ≤ 8 then 5 else 6) := fun b => by
    refine Tot.succ ?_
    cases b with
    | true => simp only [expr_line.j0, if_true]; exact Tot.const _
    | false =>
      have e : (if op = 4 then (op == 4) else (op == 5)) = decide (op = 4 ∨ op = 5) := by
        by_cases h4 : op = 4 <;> by_cases h5 : op = 5 <;> simp [h4, h5]
      have := J1 (decide (op = 4 ∨ op = 5))
      simp only [decide_eq_true_eq] at this
      by_cases h4 : op = 4
      · simp only [expr_line.j0, ff, if_pos h4]; rw [← e, if_pos h4] at this; exact this
      · simp only [expr_line.j0, ff, if_neg h4]; rw [← e, if_neg h4] at this; exact this
  unfold expr_line.f lineP
  by_cases h1 : op = 16
  · simp only [if_pos h1]; exact Tot.const _
  by_cases h2 : op = 15
  · simp only [if_neg h1, if_pos h2]; exact Tot.const _
  by_cases h3 : op ≥ 9
  · have := J0 (decide (op ≤ 14))
    simp only [decide_eq_true_eq] at this
    simp only [if_neg h1, if_neg h2, if_pos h3, h3, true_and]; exact this
  · have := J0 false
    simp only [ff] at this
    simp only [if_neg h1, if_neg h2, if_neg h3, if_neg (show ¬ (op ≥ 9 ∧ op ≤ 14) from fun h => h3 h.1)]; exact this
theorem lineB_tot (op : Int) : Tot (fun k => malthouseref02_Line.f k op) (lineP op) := by
  have J1 : ∀ b : Bool, Tot (fun k => malthouseref02_Line.j1 k op b) (if b = true then 4 else if op ≥ 6 ∧ op ≤ 8 then 5 else 6) := fun b => by
    refine Tot.succ ?_
    cases b with
    | true => simp only [malthouseref02_Line.j1, if_true]; exact Tot.const _
    | false =>
      by_cases h6 : op = 6
      · simp only [malthouseref02_Line.j1, ff, if_pos h6, if_pos (show op ≥ 6 ∧ op ≤ 8 by omega)]; exact Tot.const _
      by_cases h7 : op = 7
      · simp only [malthouseref02_Line.j1, ff, if_neg h6, if_pos h7, if_pos (show op ≥ 6 ∧ op ≤ 8 by omega)]; exact Tot.const _
      by_cases h8 : op = 8
      · simp only [malthouseref02_Line.j1, ff, if_neg h6, if_neg h7, if_pos h8, if_pos (show op ≥ 6 ∧ op ≤ 8 by omega)]; exact Tot.const _
      · simp only [malthouseref02_Line.j1, ff, if_neg h6, if_neg h7, if_neg h8, if_neg (show ¬ (op ≥ 6 ∧ op ≤ 8) by omega)]; exact Tot.const _
  have J0 : ∀ b : Bool, Tot (fun k => malthouseref02_Line.j0 k op b) (if b = true then 3 else if op = 4 ∨ op = 5 then 4 else if op ≥ 6 ∧ op ≤ 8 then 5 else 6) := fun b => by
    refine Tot.succ ?_
    cases b with
    | true => simp only [malthouseref02_Line.j0, if_true]; exact Tot.const _
    | false =>
      have e : (if op = 4 then (op == 4) else (op == 5)) = decide (op = 4 ∨ op = 5) := by
        by_cases h4 : op = 4 <;> by_cases h5 : op = 5 <;> simp [h4, h5]
      have := J1 (decide (op = 4 ∨ op = 5))
      simp only [decide_eq_true_eq] at this
      by_cases h4 : op = 4
      · simp only [malthouseref02_Line.j0, ff, if_pos h4]; rw [← e, if_pos h4] at this; exact this
      · simp only [malthouseref02_Line.j0, ff, if_neg h4]; rw [← e, if_neg h4] at this; exact this
  have T := J0 true
  simp only [if_true] at T
  have F := J0 false
  simp only [ff] at F
  unfold malthouseref02_Line.f lineP
  by_cases h1 : op = 16
  · simp only [if_pos h1]; exact Tot.const _
  by_cases h2 : op = 15
  · simp only [if_neg h1, if_pos h2]; exact Tot.const _
  by_cases h9 : op = 9
  · simp only [if_neg h1, if_neg h2, if_pos h9, show (op == 9) = true from beq_iff_eq.mpr h9, if_pos (show op ≥ 9 ∧ op ≤ 14 by omega)]; exact T
  by_cases h10 : op = 10
  · simp only [if_neg h1, if_neg h2, if_neg h9, if_pos h10, show (op == 10) = true from beq_iff_eq.mpr h10, if_pos (show op ≥ 9 ∧ op ≤ 14 by omega)]; exact T
  by_cases h11 : op = 11
  · simp only [if_neg h1, if_neg h2, if_neg h9, if_neg h10, if_pos h11, show (op == 11) = true from beq_iff_eq.mpr h11, if_pos (show op ≥ 9 ∧ op ≤ 14 by omega)]; exact T
  by_cases h12 : op = 12
  · simp only [if_neg h1, if_neg h2, if_neg h9, if_neg h10, if_neg h11, if_pos h12, show (op == 12) = true from beq_iff_eq.mpr h12, if_pos (show op ≥ 9 ∧ op ≤ 14 by omega)]; exact T
  by_cases h13 : op = 13
  · simp only [if_neg h1, if_neg h2, if_neg h9, if_neg h10, if_neg h11, if_neg h12, if_pos h13, show (op == 13) = true from beq_iff_eq.mpr h13, if_pos (show op ≥ 9 ∧ op ≤ 14 by omega)]; exact T
  by_cases h14 : op = 14
  · simp only [if_neg h1, if_neg h2, if_neg h9, if_neg h10, if_neg h11, if_neg h12, if_neg h13, show (op == 14) = true from beq_iff_eq.mpr h14, if_pos (show op ≥ 9 ∧ op ≤ 14 by omega)]; exact T
  · simp only [if_neg h1, if_neg h2, if_neg h9, if_neg h10, if_neg h11, if_neg h12, if_neg h13, show (op == 14) = false from beq_eq_false_iff_ne.mpr h14, if_neg (show ¬ (op ≥ 9 ∧ op ≤ 14) by omega)]; exact F
def wrapP (x : S34) (i : Nat) : Bool := decide (lineP (rd_T34 x.f3 (i : Int)).f0 < lineP x.f0 ∨ lineP (rd_T34 x.f3 (i : Int)).f0 = lineP x.f0 ∧ lineP x.f0 ≠ 6 ∧ ((i : Int) = 1 ∨ lineP x.f0 = 3))
theorem wrapA_tot (x : S34) (i : Nat) (hi : i < x.f3.length) : Tot (fun k => expr_wrapped.f k x.f0 x.f1 x.f2 x.f3 (i : Int)) (wrapP x i) := by
  unfold expr_wrapped.f wrapP
  have h6 := lineP_le x.f0
  refine Tot.bind (lineA_tot x.f0) ?_
  simp only [if_pos (show 0 ≤ (i : Int) by omega), if_pos (show (i : Int) < (x.f3.length : Int) by omega)]
  refine Tot.bind (lineA_tot _) ?_
  generalize lineP x.f0 = v at *
  generalize lineP (rd_T34 x.f3 (i : Int)).f0 = u at *
  by_cases c1 : u < v
  · simp only [if_pos c1, decide_eq_true (show u < v ∨ u = v ∧ v ≠ 6 ∧ ((i : Int) = 1 ∨ v = 3) from .inl c1)]; exact Tot.const _
  by_cases c2 : u = v
  · by_cases c3 : v < 6
    · by_cases c4 : (i : Int) = 1
      · simp only [if_neg c1, if_pos c2, if_pos c3, if_pos c4, decide_eq_true (show u < v ∨ u = v ∧ v ≠ 6 ∧ ((i : Int) = 1 ∨ v = 3) from .inr ⟨c2, by omega, .inl c4⟩)]; exact Tot.const _
      · have e : decide (u < v ∨ u = v ∧ v ≠ 6 ∧ ((i : Int) = 1 ∨ v = 3)) = (v == 3) := by
          by_cases c5 : v = 3
          · rw [decide_eq_true (.inr ⟨c2, by omega, .inr c5⟩)]; exact (beq_iff_eq.mpr c5).symm
          · rw [decide_eq_false (by omega)]; exact (beq_eq_false_iff_ne.mpr c5).symm
        simp only [if_neg c1, if_pos c2, if_pos c3, if_neg c4, e]; exact Tot.const _
    · simp only [if_neg c1, if_pos c2, if_neg c3, decide_eq_false (show ¬ (u < v ∨ u = v ∧ v ≠ 6 ∧ ((i : Int) = 1 ∨ v = 3)) by omega)]; exact Tot.const _
  · simp only [if_neg c1, if_neg c2, decide_eq_false (show ¬ (u < v ∨ u = v ∧ v ≠ 6 ∧ ((i : Int) = 1 ∨ v = 3)) by omega)]; exact Tot.const _
theorem wrapB_tot (x : S34) (i : Nat) (hi : i < x.f3.length) : Tot (fun k => malthouseref02_Wrapped.f k x.f0 x.f1 x.f2 x.f3 (i : Int)) (wrapP x i) := by
  unfold malthouseref02_Wrapped.f wrapP
  have h6 := lineP_le x.f0
  refine Tot.bind (lineB_tot x.f0) ?_
  simp only [if_pos (show 0 ≤ (i : Int) by omega), if_pos (show (i : Int) < (x.f3.length : Int) by omega)]
  refine Tot.bind (lineB_tot _) ?_
  generalize lineP x.f0 = v at *
  generalize lineP (rd_T34 x.f3 (i : Int)).f0 = u at *
  by_cases c1 : u < v
  · simp only [if_pos c1, decide_eq_true (show u < v ∨ u = v ∧ v ≠ 6 ∧ ((i : Int) = 1 ∨ v = 3) from .inl c1)]; exact Tot.const _
  by_cases c2 : u = v
  · by_cases c3 : v = 6
    · simp only [if_neg c1, if_pos c2, if_pos c3, decide_eq_false (show ¬ (u < v ∨ u = v ∧ v ≠ 6 ∧ ((i : Int) = 1 ∨ v = 3)) by omega)]; exact Tot.const _
    · by_cases c4 : (i : Int) = 1
      · simp only [if_neg c1, if_pos c2, if_neg c3, if_pos c4, decide_eq_true (show u < v ∨ u = v ∧ v ≠ 6 ∧ ((i : Int) = 1 ∨ v = 3) from .inr ⟨c2, by omega, .inl c4⟩)]; exact Tot.const _
      · have e : decide (u < v ∨ u = v ∧ v ≠ 6 ∧ ((i : Int) = 1 ∨ v = 3)) = (v == 3) := by
          by_cases c5 : v = 3
          · rw [decide_eq_true (.inr ⟨c2, by omega, .inr c5⟩)]; exact (beq_iff_eq.mpr c5).symm
          · rw [decide_eq_false (by omega)]; exact (beq_eq_false_iff_ne.mpr c5).symm
        simp only [if_neg c1, if_pos c2, if_neg c3, if_neg c4, e]; exact Tot.const _
  · simp only [if_neg c1, if_neg c2, decide_eq_false (show ¬ (u < v ∨ u = v ∧ v ≠ 6 ∧ ((i : Int) = 1 ∨ v = 3)) by omega)]; exact Tot.const _
inductive WfE : S34 → Prop
  | num (x : S34) (h : x.f0 = 0) (hk : x.f3 = []) : WfE x
  | name (x : S34) (h : x.f0 = 1) (hk : x.f3 = []) (hn : nameP x.f2 = true) : WfE x
  | one (x a : S34) (h : x.f0 = 2 ∨ x.f0 = 3) (hk : x.f3 = [a]) (ha : WfE a) : WfE x
  | two (x a b : S34) (h : 4 ≤ x.f0 ∧ x.f0 ≤ 16) (hk : x.f3 = [a, b]) (ha : WfE a) (hb : WfE b) : WfE x
mutual
def szE : S34 → Nat
  | ⟨_, _, _, ks⟩ => 1 + szL ks
def szL : List S34 → Nat
  | [] => 0
  | x :: xs => szE x + szL xs
end
theorem szE_eq (x : S34) : szE x = 1 + szL x.f3 := by cases x; rw [szE]
def Rel (x : S34) (b t u : Int) : Prop := (t = -1 ∧ u < 0 ∧ -2 ≤ u) ∨ (1 ≤ t ∧ t ≤ b ∧ u = b - t ∧ WfE x ∧ (szE x : Int) ≤ t) ∨ (t = 1 ∧ b = 0 ∧ u = -1)
theorem left_low (x : S34) (m : Int) (h : m < 1) : Tot (fun k => malthouseref02_left.f k x.f0 x.f1 x.f2 x.f3 m) (-1) := by
  refine Tot.succ ?_
  simp only [malthouseref02_left.f, if_pos h]
  refine Tot.succ ?_
  simp only [malthouseref02_left.j0, if_true]; exact Tot.const _
theorem tok_left {x : S34} (h : OkE x) : ∀ b : Int, 0 ≤ b → b ≤ 64 → ∃ t u, Tot (fun k => expr_tokens.f k x.f0 x.f1 x.f2 x.f3 b) t ∧ Tot (fun k => malthouseref02_left.f k x.f0 x.f1 x.f2 x.f3 b) u ∧ Rel x b t u := by
  induction h with
  | mk x h1 h2 h3 h4 ih =>
  intro b hb0 hb
  -- nothing is left
  have N : ∀ (n i : Nat) (m : Int), i + n = x.f3.length → m < 0 → -2 ≤ m → ∃ u, Tot (fun k => malthouseref02_left.l0 k m (x.f3.length : Int) (i : Int) x.f0 x.f1 x.f2 x.f3) u ∧ u < 0 ∧ -2 ≤ u := by
    intro n i m e g1 g2
    cases n with
    | zero => exact ⟨m, Tot.succ (by simp only [malthouseref02_left.l0, if_neg (show ¬ (i : Int) < (x.f3.length : Int) by omega)]; exact Tot.const _), g1, g2⟩
    | succ n =>
      refine ⟨-1, Tot.succ ?_, by omega, by omega⟩
      simp only [malthouseref02_left.l0, if_pos (show (i : Int) < (x.f3.length : Int) by omega), if_pos (show 0 ≤ (i : Int) by omega)]
      exact Tot.bind (left_low _ m (by omega)) (by simp only [if_pos (show (-1 : Int) < 0 by decide)]; exact Tot.const _)
  -- the loop
  have L : ∀ (n i : Nat) (x6 : Int), i + n = x.f3.length → 1 ≤ x6 → x6 ≤ b → ∃ t u, Tot (fun k => expr_tokens.l0 k b x6 x.f3 (x.f3.length : Int) (i : Int) x.f0 x.f1 x.f2 x.f3) t ∧ Tot (fun k => malthouseref02_left.l0 k (b - x6) (x.f3.length : Int) (i : Int) x.f0 x.f1 x.f2 x.f3) u ∧ ((t = -1 ∧ u < 0 ∧ -2 ≤ u) ∨ (x6 ≤ t ∧ t ≤ b ∧ u = b - t ∧ (∀ y ∈ x.f3.drop i, WfE y) ∧ (szL (x.f3.drop i) : Int) ≤ t - x6)) := by
    intro n
    induction n with
    | zero =>
      intro i x6 e g1 g2
      refine ⟨x6, b - x6, Tot.succ ?_, Tot.succ ?_, .inr ⟨by omega, g2, rfl, ?_⟩⟩
      · simp only [expr_tokens.l0, if_neg (show ¬ (i : Int) < (x.f3.length : Int) by omega)]; exact Tot.const _
      · simp only [malthouseref02_left.l0, if_neg (show ¬ (i : Int) < (x.f3.length : Int) by omega)]; exact Tot.const _
      · rw [List.drop_eq_nil_of_le (by omega)]; exact ⟨fun y hy => (by cases hy), by simp [szL]⟩
    | succ n ihn =>
      intro i x6 e g1 g2
      have hi : i < x.f3.length := by omega
      have hw : wrap64 (b - x6) = b - x6 := by unfold wrap64; omega
      obtain ⟨t, u, ht, hu, tk⟩ := ih _ (rd_mem hi) (b - x6) (by omega) (by omega)
      have hv := wrapA_tot x i hi
      have hv' := wrapB_tot x i hi
      generalize wrapP x i = v at hv hv'
      suffices hs : ∃ t u, Tot (fun k => expr_tokens.l0 (k + 1) b x6 x.f3 (x.f3.length : Int) (i : Int) x.f0 x.f1 x.f2 x.f3) t ∧ Tot (fun k => malthouseref02_left.l0 (k + 1) (b - x6) (x.f3.length : Int) (i : Int) x.f0 x.f1 x.f2 x.f3) u ∧ ((t = -1 ∧ u < 0 ∧ -2 ≤ u) ∨ (x6 ≤ t ∧ t ≤ b ∧ u = b - t ∧ (∀ y ∈ x.f3.drop i, WfE y) ∧ (szL (x.f3.drop i) : Int) ≤ t - x6)) by
        obtain ⟨t, u, h1, h2, h3⟩ := hs; exact ⟨t, u, Tot.succ h1, Tot.succ h2, h3⟩
      simp only [expr_tokens.l0, malthouseref02_left.l0, if_pos (show (i : Int) < (x.f3.length : Int) by omega), if_pos (show 0 ≤ (i : Int) by omega), hw, w1 (show 0 ≤ (i : Int) by omega) (show (i : Int) < 9223372036854775807 by omega)]
      rcases tk with ⟨rfl, u1, u2⟩ | ⟨t1, t2, rfl, tn, tz⟩ | ⟨rfl, b0, rfl⟩
      · exact ⟨-1, -1, Tot.bind ht (by simp only [if_pos (show (-1 : Int) < 0 by decide)]; exact Tot.const _), Tot.bind hu (by simp only [if_pos u1]; exact Tot.const _), .inl ⟨rfl, by omega, by omega⟩⟩
      · have w2 : wrap64 (x6 + t) = x6 + t := by unfold wrap64; omega
        have w3 : wrap64 (x6 + t + 2) = x6 + t + 2 := by unfold wrap64; omega
        have w4 : wrap64 (b - x6 - t - 2) = b - x6 - t - 2 := by unfold wrap64; omega
        have D : (∀ y ∈ x.f3.drop (i + 1), WfE y) → ∀ y ∈ x.f3.drop i, WfE y := fun hk y hy => by
          rw [drop34 hi] at hy
          rcases List.mem_cons.mp hy with rfl | hy
          · exact tn
          · exact hk y hy
        have Z : szL (x.f3.drop i) = szE (rd_T34 x.f3 (i : Int)) + szL (x.f3.drop (i + 1)) := by rw [drop34 hi, szL]
        cases v with
        | true =>
          by_cases hc : x6 + t + 2 > b
          · obtain ⟨u', hu', u1', u2'⟩ := N n (i + 1) (b - x6 - t - 2) (by omega) (by omega) (by omega)
            exact ⟨-1, u', Tot.bind ht (by simp only [if_neg (show ¬ t < 0 by omega)]; exact Tot.bind hv (by simp only [if_true, w2, w3, if_pos hc]; exact Tot.const _)), Tot.bind hu (by simp only [if_neg (show ¬ b - x6 - t < 0 by omega)]; exact Tot.bind hv' (by simp only [if_true, w4]; exact hu')), .inl ⟨rfl, u1', u2'⟩⟩
          · obtain ⟨t', u', ht', hu', uk⟩ := ihn (i + 1) (x6 + t + 2) (by omega) (by omega) (by omega)
            rw [show b - (x6 + t + 2) = b - x6 - t - 2 by omega] at hu'
            refine ⟨t', u', Tot.bind ht (by simp only [if_neg (show ¬ t < 0 by omega)]; exact Tot.bind hv (by simp only [if_true, w2, w3, if_neg hc]; exact ht')), Tot.bind hu (by simp only [if_neg (show ¬ b - x6 - t < 0 by omega)]; exact Tot.bind hv' (by simp only [if_true, w4]; exact hu')), ?_⟩
            rcases uk with uk | ⟨u1, u2, u3, u4, u5⟩
            · exact .inl uk
            · exact .inr ⟨by omega, u2, u3, D u4, by omega⟩
        | false =>
          by_cases hc : x6 + t > b
          · omega
          · obtain ⟨t', u', ht', hu', uk⟩ := ihn (i + 1) (x6 + t) (by omega) (by omega) (by omega)
            rw [show b - (x6 + t) = b - x6 - t by omega] at hu'
            refine ⟨t', u', Tot.bind ht (by simp only [if_neg (show ¬ t < 0 by omega)]; exact Tot.bind hv (by simp only [ff, w2, if_neg hc]; exact ht')), Tot.bind hu (by simp only [if_neg (show ¬ b - x6 - t < 0 by omega)]; exact Tot.bind hv' (by simp only [ff]; exact hu')), ?_⟩
            rcases uk with uk | ⟨u1, u2, u3, u4, u5⟩
            · exact .inl uk
            · exact .inr ⟨by omega, u2, u3, D u4, by omega⟩
      · have w2 : wrap64 (x6 + 1) = x6 + 1 := by unfold wrap64; omega
        have w3 : wrap64 (x6 + 1 + 2) = x6 + 1 + 2 := by unfold wrap64; omega
        refine ⟨-1, -1, Tot.bind ht ?_, Tot.bind hu (by simp only [if_pos (show (-1 : Int) < 0 by decide)]; exact Tot.const _), .inl ⟨rfl, by omega, by omega⟩⟩
        simp only [if_neg (show ¬ (1 : Int) < 0 by decide)]
        refine Tot.bind hv ?_
        cases v with
        | true => simp only [if_true, w2, w3, if_pos (show x6 + 1 + 2 > b by omega)]; exact Tot.const _
        | false => simp only [ff, w2, if_pos (show x6 + 1 > b by omega)]; exact Tot.const _
  have F1 : Tot (fun k => expr_tokens.j2 k b true x.f0 x.f1 x.f2 x.f3) (-1) := Tot.succ (by simp only [expr_tokens.j2, if_true]; exact Tot.const _)
  have G1 : Tot (fun k => malthouseref02_left.j0 k b true x.f0 x.f1 x.f2 x.f3) (-1) := Tot.succ (by simp only [malthouseref02_left.j0, if_true]; exact Tot.const _)
  have G2 : 1 ≤ b → 0 ≤ x.f0 → x.f0 ≤ 16 → ∀ u, Tot (fun k => malthouseref02_left.j0 k b false x.f0 x.f1 x.f2 x.f3) u → Tot (fun k => malthouseref02_left.f k x.f0 x.f1 x.f2 x.f3 b) u := fun g1 g2 g3 u hu => by
    refine Tot.succ ?_
    simp only [malthouseref02_left.f, if_neg (show ¬ b < 1 by omega), if_neg (show ¬ x.f0 < 0 by omega), decide_eq_false (show ¬ x.f0 > 16 by omega)]; exact hu
  by_cases o0 : x.f0 = 0
  · -- a number
    have TA : ∀ t, Tot (fun k => expr_tokens.j0 k b 2 x.f0 true x.f0 x.f1 x.f2 x.f3) t → Tot (fun k => expr_tokens.f k x.f0 x.f1 x.f2 x.f3 b) t := fun t ht => by
      refine Tot.succ ?_
      simp only [expr_tokens.f, if_pos o0, show (x.f0 == 0) = true by simp [o0]]; exact ht
    have UA : 1 ≤ b → ∀ u, Tot (fun k => malthouseref02_left.j1 k b true x.f0 x.f1 x.f2 x.f3) u → Tot (fun k => malthouseref02_left.f k x.f0 x.f1 x.f2 x.f3 b) u := fun g u hu => by
      refine G2 g (by omega) (by omega) u (Tot.succ ?_)
      simp only [malthouseref02_left.j0, ff, if_pos o0]; exact hu
    have hn := docName_tot x.f2 (by omega)
    have w5 : wrap64 (b - 1) = b - 1 := by unfold wrap64; omega
    by_cases hk : x.f3 = []
    · by_cases hm : x.f1 < 0
      · refine ⟨-1, -1, TA _ (Tot.succ ?_), ?_, .inl ⟨rfl, by omega, by omega⟩⟩
        · simp only [expr_tokens.j0, if_true, if_pos o0, hk, List.length_nil, if_neg (show ¬ ((0 : Nat) : Int) > 0 by decide), if_pos hm]; exact Tot.const _
        · by_cases gb : b < 1
          · exact left_low x b gb
          · refine UA (by omega) _ (Tot.succ ?_)
            simp only [malthouseref02_left.j1, if_true]
            refine Tot.bind hn ?_
            simp only [hk, List.length_nil, if_pos (show ((0 : Nat) : Int) = 0 from rfl), if_pos o0, if_pos hm]; exact Tot.const _
      · by_cases hs : x.f2.toList = ([] : List UInt8)
        · have ht : Tot (fun k => expr_tokens.f k x.f0 x.f1 x.f2 x.f3 b) 1 := TA _ (Tot.succ (by
            simp only [expr_tokens.j0, if_true, if_pos o0, hk, List.length_nil, if_neg (show ¬ ((0 : Nat) : Int) > 0 by decide), if_neg hm, if_pos hs, if_neg (show ¬ x.f0 = 1 by omega)]; exact Tot.const _))
          by_cases gb : b < 1
          · exact ⟨1, -1, ht, left_low x b gb, .inr (.inr ⟨rfl, by omega, rfl⟩)⟩
          · refine ⟨1, b - 1, ht, UA (by omega) _ (Tot.succ ?_), .inr (.inl ⟨by omega, by omega, rfl, WfE.num x o0 hk, by rw [szE_eq, hk]; simp [szL]⟩)⟩
            simp only [malthouseref02_left.j1, if_true]
            refine Tot.bind hn ?_
            simp only [hk, List.length_nil, if_pos (show ((0 : Nat) : Int) = 0 from rfl), if_pos o0, if_neg hm, if_pos hs, if_neg (show ¬ x.f0 = 1 by omega), w5]; exact Tot.const _
        · refine ⟨-1, -1, TA _ (Tot.succ ?_), ?_, .inl ⟨rfl, by omega, by omega⟩⟩
          · simp only [expr_tokens.j0, if_true, if_pos o0, hk, List.length_nil, if_neg (show ¬ ((0 : Nat) : Int) > 0 by decide), if_neg hm, if_neg hs]; exact Tot.const _
          · by_cases gb : b < 1
            · exact left_low x b gb
            · refine UA (by omega) _ (Tot.succ ?_)
              simp only [malthouseref02_left.j1, if_true]
              refine Tot.bind hn ?_
              simp only [hk, List.length_nil, if_pos (show ((0 : Nat) : Int) = 0 from rfl), if_pos o0, if_neg hm, if_neg hs]; exact Tot.const _
    · have hp : 0 < x.f3.length := List.length_pos_iff.mpr hk
      refine ⟨-1, -1, TA _ (Tot.succ ?_), ?_, .inl ⟨rfl, by omega, by omega⟩⟩
      · simp only [expr_tokens.j0, if_true, if_pos (show (x.f3.length : Int) > 0 by omega)]; exact Tot.const _
      · by_cases gb : b < 1
        · exact left_low x b gb
        · refine UA (by omega) _ (Tot.succ ?_)
          simp only [malthouseref02_left.j1, if_true]
          refine Tot.bind hn ?_
          simp only [if_neg (show ¬ (x.f3.length : Int) = 0 by omega)]; exact Tot.const _
  by_cases o1 : x.f0 = 1
  · have TA : ∀ t, Tot (fun k => expr_tokens.j0 k b 2 x.f0 true x.f0 x.f1 x.f2 x.f3) t → Tot (fun k => expr_tokens.f k x.f0 x.f1 x.f2 x.f3 b) t := fun t ht => by
      refine Tot.succ ?_
      simp only [expr_tokens.f, if_neg o0, show (x.f0 == 1) = true by simp [o1]]; exact ht
    have UA : 1 ≤ b → ∀ u, Tot (fun k => malthouseref02_left.j1 k b true x.f0 x.f1 x.f2 x.f3) u → Tot (fun k => malthouseref02_left.f k x.f0 x.f1 x.f2 x.f3 b) u := fun g u hu => by
      refine G2 g (by omega) (by omega) u (Tot.succ ?_)
      simp only [malthouseref02_left.j0, ff, if_neg o0, show (x.f0 == 1) = true by simp [o1]]; exact hu
    have hn := docName_tot x.f2 (by omega)
    have hl := lexName_eq x.f2 (by omega)
    have w5 : wrap64 (b - 1) = b - 1 := by unfold wrap64; omega
    by_cases hk : x.f3 = []
    · by_cases hm : x.f1 = 0
      · cases hN : nameP x.f2 with
        | true =>
          rw [hN] at hn hl
          have ht : Tot (fun k => expr_tokens.f k x.f0 x.f1 x.f2 x.f3 b) 1 := TA _ (Tot.succ (by
            simp only [expr_tokens.j0, if_true, if_neg o0, if_pos o1, hk, List.length_nil, if_neg (show ¬ ((0 : Nat) : Int) > 0 by decide), if_pos hm, hl, Option.bind_some]; exact Tot.const _))
          by_cases gb : b < 1
          · exact ⟨1, -1, ht, left_low x b gb, .inr (.inr ⟨rfl, by omega, rfl⟩)⟩
          · refine ⟨1, b - 1, ht, UA (by omega) _ (Tot.succ ?_), .inr (.inl ⟨by omega, by omega, rfl, WfE.name x o1 hk hN, by rw [szE_eq, hk]; simp [szL]⟩)⟩
            simp only [malthouseref02_left.j1, if_true]
            refine Tot.bind hn ?_
            simp only [hk, List.length_nil, if_pos (show ((0 : Nat) : Int) = 0 from rfl), if_neg o0, if_pos o1, if_true, if_pos hm, w5]; exact Tot.const _
        | false =>
          rw [hN] at hn hl
          refine ⟨-1, -1, TA _ (Tot.succ ?_), ?_, .inl ⟨rfl, by omega, by omega⟩⟩
          · simp only [expr_tokens.j0, if_true, if_neg o0, if_pos o1, hk, List.length_nil, if_neg (show ¬ ((0 : Nat) : Int) > 0 by decide), if_pos hm, hl, Option.bind_some, ff]; exact Tot.const _
          · by_cases gb : b < 1
            · exact left_low x b gb
            · refine UA (by omega) _ (Tot.succ ?_)
              simp only [malthouseref02_left.j1, if_true]
              refine Tot.bind hn ?_
              simp only [hk, List.length_nil, if_pos (show ((0 : Nat) : Int) = 0 from rfl), if_neg o0, if_pos o1, ff]; exact Tot.const _
      · refine ⟨-1, -1, TA _ (Tot.succ ?_), ?_, .inl ⟨rfl, by omega, by omega⟩⟩
        · simp only [expr_tokens.j0, if_true, if_neg o0, if_pos o1, hk, List.length_nil, if_neg (show ¬ ((0 : Nat) : Int) > 0 by decide), if_neg hm]; exact Tot.const _
        · by_cases gb : b < 1
          · exact left_low x b gb
          · refine UA (by omega) _ (Tot.succ ?_)
            simp only [malthouseref02_left.j1, if_true]
            refine Tot.bind hn ?_
            simp only [hk, List.length_nil, if_pos (show ((0 : Nat) : Int) = 0 from rfl), if_neg o0, if_pos o1, if_neg hm]
            cases nameP x.f2 <;> simp only [if_true, ff] <;> exact Tot.const _
    · have hp : 0 < x.f3.length := List.length_pos_iff.mpr hk
      refine ⟨-1, -1, TA _ (Tot.succ ?_), ?_, .inl ⟨rfl, by omega, by omega⟩⟩
      · simp only [expr_tokens.j0, if_true, if_pos (show (x.f3.length : Int) > 0 by omega)]; exact Tot.const _
      · by_cases gb : b < 1
        · exact left_low x b gb
        · refine UA (by omega) _ (Tot.succ ?_)
          simp only [malthouseref02_left.j1, if_true]
          refine Tot.bind hn ?_
          simp only [if_neg (show ¬ (x.f3.length : Int) = 0 by omega)]; exact Tot.const _
  -- an operator
  obtain ⟨p, hpp⟩ : ∃ p : Int, p = if x.f0 = 2 ∨ x.f0 = 3 then 1 else 2 := ⟨_, rfl⟩
  have TA : ∀ t, Tot (fun k => expr_tokens.j1 k b p x.f0 x.f1 x.f2 x.f3) t → Tot (fun k => expr_tokens.f k x.f0 x.f1 x.f2 x.f3 b) t := fun t ht => by
    refine Tot.succ ?_
    simp only [expr_tokens.f, if_neg o0, show (x.f0 == 1) = false by simp [o1]]
    refine Tot.succ ?_
    simp only [expr_tokens.j0, ff]
    by_cases o2 : x.f0 = 2
    · rw [if_pos (.inl o2)] at hpp; subst hpp; simp only [if_pos o2]; exact ht
    by_cases o3 : x.f0 = 3
    · rw [if_pos (.inr o3)] at hpp; subst hpp; simp only [if_neg o2, if_pos o3]; exact ht
    · rw [if_neg (by omega)] at hpp; subst hpp; simp only [if_neg o2, if_neg o3]; exact ht
  have UA : 1 ≤ b → 0 ≤ x.f0 → x.f0 ≤ 16 → ∀ u, Tot (fun k => malthouseref02_left.j3 k b p x.f0 x.f1 x.f2 x.f3) u → Tot (fun k => malthouseref02_left.f k x.f0 x.f1 x.f2 x.f3 b) u := fun g g' g'' u hu => by
    refine G2 g g' g'' u (Tot.succ ?_)
    simp only [malthouseref02_left.j0, ff, if_neg o0, show (x.f0 == 1) = false by simp [o1]]
    refine Tot.succ ?_
    simp only [malthouseref02_left.j1, ff]
    by_cases o2 : x.f0 = 2
    · rw [if_pos (.inl o2)] at hpp; subst hpp; simp only [if_pos o2]; exact Tot.succ (by simp only [malthouseref02_left.j2, if_true]; exact hu)
    by_cases o3 : x.f0 = 3
    · rw [if_pos (.inr o3)] at hpp; subst hpp; simp only [if_neg o2, show (x.f0 == 3) = true by simp [o3]]; exact Tot.succ (by simp only [malthouseref02_left.j2, if_true]; exact hu)
    · rw [if_neg (by omega)] at hpp; subst hpp; simp only [if_neg o2, show (x.f0 == 3) = false by simp [o3]]; exact Tot.succ (by simp only [malthouseref02_left.j2, ff]; exact hu)
  have J4 : Tot (fun k => malthouseref02_left.j4 k b p true x.f0 x.f1 x.f2 x.f3) (-1) := Tot.succ (by simp only [malthouseref02_left.j4, if_true]; exact Tot.const _)
  by_cases r0 : x.f0 < 0
  · refine ⟨-1, -1, TA _ (Tot.succ ?_), ?_, .inl ⟨rfl, by omega, by omega⟩⟩
    · simp only [expr_tokens.j1, if_pos r0]; exact F1
    · by_cases gb : b < 1
      · exact left_low x b gb
      · refine Tot.succ ?_
        simp only [malthouseref02_left.f, if_neg gb, if_pos r0]; exact G1
  by_cases r1 : x.f0 > 16
  · refine ⟨-1, -1, TA _ (Tot.succ ?_), ?_, .inl ⟨rfl, by omega, by omega⟩⟩
    · simp only [expr_tokens.j1, if_neg r0, if_pos r1]; exact F1
    · by_cases gb : b < 1
      · exact left_low x b gb
      · refine Tot.succ ?_
        simp only [malthouseref02_left.f, if_neg gb, if_neg r0, decide_eq_true r1]; exact G1
  have bad : (x.f1 ≠ 0 ∨ x.f2.toList ≠ ([] : List UInt8) ∨ (x.f3.length : Int) ≠ p ∨ b < 1) → ∃ t u, Tot (fun k => expr_tokens.f k x.f0 x.f1 x.f2 x.f3 b) t ∧ Tot (fun k => malthouseref02_left.f k x.f0 x.f1 x.f2 x.f3 b) u ∧ Rel x b t u := fun hbad => by
    refine ⟨-1, -1, TA _ (Tot.succ ?_), ?_, .inl ⟨rfl, by omega, by omega⟩⟩
    · simp only [expr_tokens.j1, if_neg r0, if_neg r1]
      by_cases c1 : x.f1 = 0
      · by_cases c2 : x.f2.toList = ([] : List UInt8)
        · by_cases c3 : (x.f3.length : Int) = p
          · have : b < 1 := by rcases hbad with h | h | h | h; exact absurd c1 h; exact absurd c2 h; exact absurd c3 h; exact h
            simp only [if_pos c1, if_pos c2, if_pos c3, decide_eq_true this]; exact F1
          · simp only [if_pos c1, if_pos c2, if_neg c3]; exact F1
        · simp only [if_pos c1, if_neg c2]; exact F1
      · simp only [if_neg c1]; exact F1
    · by_cases gb : b < 1
      · exact left_low x b gb
      · refine UA (by omega) (by omega) (by omega) _ (Tot.succ ?_)
        simp only [malthouseref02_left.j3]
        by_cases c3 : (x.f3.length : Int) = p
        · by_cases c1 : x.f1 = 0
          · have c2 : x.f2.toList ≠ ([] : List UInt8) := by rcases hbad with h | h | h | h; exact absurd c1 h; exact h; exact absurd c3 h; exact absurd h gb
            simp only [if_pos c3, if_pos c1, show (x.f2.toList != ([] : List UInt8)) = true from bne_iff_ne.mpr c2]; exact J4
          · simp only [if_pos c3, if_neg c1]; exact J4
        · simp only [if_neg c3]; exact J4
  by_cases c1 : x.f1 = 0
  rotate_left
  · exact bad (.inl c1)
  by_cases c2 : x.f2.toList = ([] : List UInt8)
  rotate_left
  · exact bad (.inr (.inl c2))
  by_cases c3 : (x.f3.length : Int) = p
  rotate_left
  · exact bad (.inr (.inr (.inl c3)))
  by_cases gb : b < 1
  · exact bad (.inr (.inr (.inr gb)))
  obtain ⟨t, u, ht, hu, tk⟩ := L x.f3.length 0 1 (by omega) (by omega) (by omega)
  rw [c3] at ht hu
  refine ⟨t, u, TA _ (Tot.succ ?_), UA (by omega) (by omega) (by omega) _ (Tot.succ ?_), ?_⟩
  · simp only [expr_tokens.j1, if_neg r0, if_neg r1, if_pos c1, if_pos c2, if_pos c3, decide_eq_false gb]
    exact Tot.succ (by simp only [expr_tokens.j2, ff, c3]; exact ht)
  · simp only [malthouseref02_left.j3, if_pos c3, if_pos c1, show (x.f2.toList != ([] : List UInt8)) = false from bne_eq_false_iff_eq.mpr c2]
    exact Tot.succ (by simp only [malthouseref02_left.j4, ff, show wrap64 (b - 1) = b - 1 by unfold wrap64; omega]; exact hu)
  · rcases tk with h | ⟨t1, t2, t3, t4, t5⟩
    · exact .inl h
    · rw [List.drop_zero] at t4 t5
      refine .inr (.inl ⟨t1, t2, t3, ?_, by rw [szE_eq]; omega⟩)
      by_cases o23 : x.f0 = 2 ∨ x.f0 = 3
      · rw [if_pos o23] at hpp
        match hk : x.f3, c3 with
        | [], c => simp at c; omega
        | [a], c => exact WfE.one x a o23 hk (t4 a (by rw [hk]; simp))
        | a :: a' :: l, c => simp at c; omega
      · rw [if_neg o23] at hpp
        match hk : x.f3, c3 with
        | [], c => simp at c; omega
        | [a], c => simp at c; omega
        | [a, a'], c => exact WfE.two x a a' (by omega) hk (t4 a (by rw [hk]; simp)) (t4 a' (by rw [hk]; simp))
        | a :: a' :: a'' :: l, c => simp at c; omega
open Classical in
noncomputable def mayP (x : S34) : Bool := if Tot (fun k => expr_May.f k x.f0 x.f1 x.f2 x.f3) true then true else false
theorem may_both {x : S34} (h : OkE x) : Tot (fun k => expr_May.f k x.f0 x.f1 x.f2 x.f3) (mayP x) ∧ Tot (fun k => malthouseref02_May.f k x.f0 x.f1 x.f2 x.f3) (mayP x) ∧ (mayP x = true → WfE x ∧ szE x ≤ 64) := by
  obtain ⟨t, u, ht, hu, tk⟩ := tok_left h 64 (by omega) (by omega)
  have A : ∀ v : Bool, v = decide (t > 0) → Tot (fun k => expr_May.f k x.f0 x.f1 x.f2 x.f3) v := fun v hv => by
    refine Tot.bind ht ?_
    by_cases c : t > 0
    · simp only [if_pos c]
      rcases tk with ⟨h1, _, _⟩ | ⟨h1, h2, h3, h4, h5⟩ | ⟨h1, h2, h3⟩
      · omega
      · rw [hv, decide_eq_true c, show decide (t ≤ 64) = true from decide_eq_true h2]; exact Tot.const _
      · omega
    · simp only [if_neg c]; rw [hv, decide_eq_false c]; exact Tot.const _
  have hm : mayP x = decide (t > 0) := by
    unfold mayP
    by_cases c : t > 0
    · rw [if_pos (A true (decide_eq_true c).symm)]; exact (decide_eq_true c).symm
    · rw [if_neg (fun g => by have := Tot.uniq g (A false (decide_eq_false c).symm); cases this)]; exact (decide_eq_false c).symm
  refine ⟨A _ hm, Tot.bind hu ?_, fun g => ?_⟩
  · rw [hm]
    have : decide (u ≥ 0) = decide (t > 0) := by
      rcases tk with ⟨h1, h2, h3⟩ | ⟨h1, h2, h3, h4, h5⟩ | ⟨h1, h2, h3⟩
      · rw [decide_eq_false (by omega), decide_eq_false (by omega)]
      · rw [decide_eq_true (by omega), decide_eq_true (by omega)]
      · omega
    simp only [this]; exact Tot.const _
  · rw [hm] at g
    have := of_decide_eq_true g
    rcases tk with ⟨h1, h2, h3⟩ | ⟨h1, h2, h3, h4, h5⟩ | ⟨h1, h2, h3⟩
    · omega
    · exact ⟨h4, by omega⟩
    · omega
end Go.Proofs.YtiaccdaeomaogaaDoor.F
namespace Go.Proofs.YtiaccdaeomaogaaDoor.F
open Go.RowKit Go.Proofs.YtiaccdaeomaogaaDoorW.PrintWords Go.Proofs.YtiaccdaeomaogaaDoorW.PrintLast Go.Proofs.YtiaccdaeomaogaaDoorW.PrintMore
attribute [local go_sem] max2_int min2_int max_two min_two max_three min_three max_four min_four   -- for this text's walks alone
set_option linter.unusedVariables false
set_option linter.unusedSimpArgs false
def malthouseref02_Cell.l0 : Nat → List (S69) → ByteArray → Int → Option (Int × Bool)
  | 0, _, _, _ => none
  | k + 1, x0, x1, x6 => if x6 < (x0.length : Int) then (if 0 ≤ x6 then (if ((rd_T69 x0 x6).f0).toList = x1.toList then (some ((rd_T69 x0 x6).f1, true)) else (malthouseref02_Cell.l0 k x0 x1 (wrap64 (x6 + 1)))) else (none)) else (some (0, false))
def malthouseref02_Cell.f (k : Nat) (l0 : List (S69)) (a1 : ByteArray) : Option (Int × Bool) := malthouseref02_Cell.l0 k l0 a1 0
set_option maxHeartbeats 8000000 in
set_option maxRecDepth 100000 in
theorem malthouseref02_Cell.calls (k : Nat) (A0 : Option Addr) (c0 : Nat) (l0 : List (S69)) (a1 : ByteArray) (r1 : Int) (r2 : Bool) (w : World) (hr0 : Kd.C k69 w A0 l0.length l0) (hc0 : l0.length ≤ c0) (h : malthouseref02_Cell.f k l0 a1 = some (r1, r2)) :
    Calls Tryd.prog 135 #[.slice A0 l0.length c0, .string a1] w fun e w' => e = .returned (.tuple #[.int .i64 r1, .bool r2]) ∧ Drawn0 w w' := by
  have HR0 := Aside0.mk hr0
  have HC0 := Aside0.mk hc0
  clear hr0 hc0
  have H : (malthouseref02_Cell.l0 k l0 a1 0) = some (r1, r2) := h
  clear h
  have H' := Aside0.mk H
  clear H
  go_enter Tryd.func135, Tryd.ntmps135
  go_wp2
  go_loopg [6] k (fun kq v6 w' => ∃ (x6_1 : Int), v6 = .int .i64 x6_1 ∧ Aside0 (malthouseref02_Cell.l0 kq l0 a1 x6_1 = some (r1, r2)) ∧ Aside0 (kq ≤ k) ∧ Drawn0 w w')
  case atStart => exact ⟨(0), qv, H', ⟨Nat.le_refl _⟩, by repeat (first | exact Drawn0.refl _ | apply Drawn0.step)⟩
  case round =>
    clear H'
    obtain ⟨x6_1, rfl, HA, HK1, ⟨m1, rfl⟩⟩ := hrel
    cases gk with
    | zero => exact absurd HA.out (by simp [malthouseref02_Cell.l0])
    | succ k1 =>
      have H := HA.out
      clear HA
      simp only [malthouseref02_Cell.l0] at H
      by_cases c3 : x6_1 < (l0.length : Int)
      · rw [if_pos c3] at H
        have c3b0 : decide (x6_1 < (l0.length : Int)) = true := decide_eq_true c3
        clear c3
        by_cases c4 : 0 ≤ x6_1
        · rw [if_pos c4] at H
          have c4b0 : decide (0 ≤ x6_1) = true := decide_eq_true c4
          clear c4
          by_cases c5 : ((rd_T69 l0 x6_1).f0).toList = a1.toList
          · rw [if_pos c5] at H
            obtain ⟨c5b0, c5b1⟩ := qe c5
            clear c5
            simp only [Option.some.injEq, Prod.mk.injEq] at H
            obtain ⟨rfl, rfl⟩ := H
            have p101 : 0 ≤ (x6_1 : Int) := qa
            have q101 : x6_1 < (l0.length : Int) := qa
            obtain ⟨ad101, e101, hx101_0, hx101_1⟩ := at_T69 HR0.out x6_1 p101 q101
            cases e101
            replace p101 := eq_true p101
            replace q101 := eq_true q101
            have p102 : 0 ≤ (x6_1 : Int) := qa
            have q102 : x6_1 < (l0.length : Int) := qa
            obtain ⟨ad102, e102, hx102_0, hx102_1⟩ := at_T69 HR0.out x6_1 p102 q102
            obtain rfl : ad101 = ad102 := (by injection e102)
            replace p102 := eq_true p102
            replace q102 := eq_true q102
            go_wp2
            go_ret2
            exact ⟨by first | rfl | (simp; done) | (simp [*]; done), by repeat (first | exact Drawn0.refl _ | apply Drawn0.step)⟩
          rw [if_neg c5] at H
          obtain ⟨c5b0, c5b1⟩ := qd c5
          have H' := Aside0.mk H
          clear H
          have p101 : 0 ≤ (x6_1 : Int) := qa
          have q101 : x6_1 < (l0.length : Int) := qa
          obtain ⟨ad101, e101, hx101_0, hx101_1⟩ := at_T69 HR0.out x6_1 p101 q101
          cases e101
          replace p101 := eq_true p101
          replace q101 := eq_true q101
          go_wp2
          go_roundg k1
          case measure => have := HK1.out; omega
          case rel => exact ⟨(wrap64 (x6_1 + 1)), qv, H', ⟨by have := HK1.out; omega⟩, by repeat (first | exact Drawn0.refl _ | apply Drawn0.step)⟩
        rw [if_neg c4] at H
        exact absurd H (by simp)
      rw [if_neg c3] at H
      have c3b0 : decide (x6_1 < (l0.length : Int)) = false := decide_eq_false c3
      clear c3
      simp only [Option.some.injEq, Prod.mk.injEq] at H
      obtain ⟨rfl, rfl⟩ := H
      go_wp2
      go_ret2
      exact ⟨by first | rfl | (simp; done) | (simp [*]; done), by repeat (first | exact Drawn0.refl _ | apply Drawn0.step)⟩
def malthouseref02_Add.f (a0 : Int) (a1 : Int) : Option (Int × Bool) := if a1 > 0 then (if a0 > (wrap64 (9223372036854775807 - a1)) then (some (0, false)) else (if a1 < 0 then (if a0 < (wrap64 ((-9223372036854775808) - a1)) then (some (0, false)) else (some (wrap64 (a0 + a1), true))) else (some (wrap64 (a0 + a1), true)))) else (if a1 < 0 then (if a0 < (wrap64 ((-9223372036854775808) - a1)) then (some (0, false)) else (some (wrap64 (a0 + a1), true))) else (some (wrap64 (a0 + a1), true)))
set_option maxHeartbeats 8000000 in
set_option maxRecDepth 100000 in
theorem malthouseref02_Add.calls (a0 : Int) (a1 : Int) (r1 : Int) (r2 : Bool) (w : World) (h : malthouseref02_Add.f a0 a1 = some (r1, r2)) :
  Calls Tryd.prog 153 #[.int .i64 a0, .int .i64 a1] w fun e w' => e = .returned (.tuple #[.int .i64 r1, .bool r2]) ∧ Drawn0 w w' := by
 have H : (if a1 > 0 then (if a0 > (wrap64 (9223372036854775807 - a1)) then (some (0, false)) else (if a1 < 0 then (if a0 < (wrap64 ((-9223372036854775808) - a1)) then (some (0, false)) else (some (wrap64 (a0 + a1), true))) else (some (wrap64 (a0 + a1), true)))) else (if a1 < 0 then (if a0 < (wrap64 ((-9223372036854775808) - a1)) then (some (0, false)) else (some (wrap64 (a0 + a1), true))) else (some (wrap64 (a0 + a1), true)))) = some (r1, r2) := h
 clear h
 by_cases c3 : a1 > 0
 ·rw [if_pos c3] at H
  have c3b0 : decide (0 < a1) = true := decide_eq_true c3
  clear c3
  by_cases c4 : a0 > (wrap64 (9223372036854775807 - a1))
  ·rw [if_pos c4] at H
   have c4b0 : decide ((wrap64 (9223372036854775807 - a1)) < a0) = true := decide_eq_true c4
   clear c4
   simp only [Option.some.injEq, Prod.mk.injEq] at H
   obtain ⟨rfl, rfl⟩ := H
   go_enter Tryd.func153, Tryd.ntmps153
   go_wp2
   go_ret2
   exact ⟨by first | rfl | (simp; done) | (simp [*]; done), by repeat (first | exact Drawn0.refl _ | apply Drawn0.step)⟩
  rw [if_neg c4] at H
  have c4b0 : decide ((wrap64 (9223372036854775807 - a1)) < a0) = false := decide_eq_false c4
  clear c4
  by_cases c5 : a1 < 0
  ·rw [if_pos c5] at H
   have c5b0 : decide (a1 < 0) = true := decide_eq_true c5
   clear c5
   by_cases c6 : a0 < (wrap64 ((-9223372036854775808) - a1))
   ·rw [if_pos c6] at H
    have c6b0 : decide (a0 < (wrap64 ((-9223372036854775808) - a1))) = true := decide_eq_true c6
    clear c6
    simp only [Option.some.injEq, Prod.mk.injEq] at H
    obtain ⟨rfl, rfl⟩ := H
    go_enter Tryd.func153, Tryd.ntmps153
    go_wp2
    go_ret2
    exact ⟨by first | rfl | (simp; done) | (simp [*]; done), by repeat (first | exact Drawn0.refl _ | apply Drawn0.step)⟩
   rw [if_neg c6] at H
   have c6b0 : decide (a0 < (wrap64 ((-9223372036854775808) - a1))) = false := decide_eq_false c6
   clear c6
   simp only [Option.some.injEq, Prod.mk.injEq] at H
   obtain ⟨rfl, rfl⟩ := H
   go_enter Tryd.func153, Tryd.ntmps153
   go_wp2
   go_ret2
   exact ⟨by first | rfl | (simp; done) | (simp [*]; done), by repeat (first | exact Drawn0.refl _ | apply Drawn0.step)⟩
  rw [if_neg c5] at H
  have c5b0 : decide (a1 < 0) = false := decide_eq_false c5
  clear c5
  simp only [Option.some.injEq, Prod.mk.injEq] at H
  obtain ⟨rfl, rfl⟩ := H
  go_enter Tryd.func153, Tryd.ntmps153
  go_wp2
  go_ret2
  exact ⟨by first | rfl | (simp; done) | (simp [*]; done), by repeat (first | exact Drawn0.refl _ | apply Drawn0.step)⟩
 rw [if_neg c3] at H
 have c3b0 : decide (0 < a1) = false := decide_eq_false c3
 clear c3
 by_cases c7 : a1 < 0
 ·rw [if_pos c7] at H
  have c7b0 : decide (a1 < 0) = true := decide_eq_true c7
  clear c7
  by_cases c8 : a0 < (wrap64 ((-9223372036854775808) - a1))
  ·rw [if_pos c8] at H
   have c8b0 : decide (a0 < (wrap64 ((-9223372036854775808) - a1))) = true := decide_eq_true c8
   clear c8
   simp only [Option.some.injEq, Prod.mk.injEq] at H
   obtain ⟨rfl, rfl⟩ := H
   go_enter Tryd.func153, Tryd.ntmps153
   go_wp2
   go_ret2
   exact ⟨by first | rfl | (simp; done) | (simp [*]; done), by repeat (first | exact Drawn0.refl _ | apply Drawn0.step)⟩
  rw [if_neg c8] at H
  have c8b0 : decide (a0 < (wrap64 ((-9223372036854775808) - a1))) = false := decide_eq_false c8
  clear c8
  simp only [Option.some.injEq, Prod.mk.injEq] at H
  obtain ⟨rfl, rfl⟩ := H
  go_enter Tryd.func153, Tryd.ntmps153
  go_wp2
  go_ret2
  exact ⟨by first | rfl | (simp; done) | (simp [*]; done), by repeat (first | exact Drawn0.refl _ | apply Drawn0.step)⟩
 rw [if_neg c7] at H
 have c7b0 : decide (a1 < 0) = false := decide_eq_false c7
 clear c7
 simp only [Option.some.injEq, Prod.mk.injEq] at H
 obtain ⟨rfl, rfl⟩ := H
 go_enter Tryd.func153, Tryd.ntmps153
 go_wp2
 go_ret2
 exact ⟨by first | rfl | (simp; done) | (simp [*]; done), by repeat (first | exact Drawn0.refl _ | apply Drawn0.step)⟩
end Go.Proofs.YtiaccdaeomaogaaDoor.F
