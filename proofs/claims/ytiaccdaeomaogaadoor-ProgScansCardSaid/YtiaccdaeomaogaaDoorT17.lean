/- Texts of one claim, slimmed and merged by slim.py. -/
import Derived.Test.YtiaccdaeomaogaaDoorT4
import Derived.Test.YtiaccdaeomaogaaDoorT5
import Derived.Test.YtiaccdaeomaogaaDoorT13
import Derived.Test.YtiaccdaeomaogaaDoorT16
namespace Go.Proofs.YtiaccdaeomaogaaDoor.F
open Go.RowKit Go.Proofs.YtiaccdaeomaogaaDoorW.PrintWords Go.Proofs.YtiaccdaeomaogaaDoorW.PrintLast Go.Proofs.YtiaccdaeomaogaaDoorW.PrintMore
set_option linter.unusedVariables false
set_option linter.unusedSimpArgs false
open Classical in
noncomputable def evV (en : List S69) (x : S34) : Int × Int := if h : ∃ p, Tot (fun k => expr_Eval.f k x.f0 x.f1 x.f2 x.f3 en) p then h.choose else (0, 0)
theorem evV_eq {en : List S69} {x : S34} {p : Int × Int} (h : Tot (fun k => expr_Eval.f k x.f0 x.f1 x.f2 x.f3 en) p) : evV en x = p := by
  have hx : ∃ p, Tot (fun k => expr_Eval.f k x.f0 x.f1 x.f2 x.f3 en) p := ⟨p, h⟩
  unfold evV
  rw [dif_pos hx, Tot.uniq hx.choose_spec h]
theorem evV_tot {en : List S69} {x : S34} (h : OkE x) (he : OkC en) : Tot (fun k => expr_Eval.f k x.f0 x.f1 x.f2 x.f3 en) (evV en x) ∧ I64 (evV en x).1 := by
  obtain ⟨p, hp, ip⟩ := Eval_tot h he
  rw [evV_eq hp]; exact ⟨hp, ip⟩
def reck (op : Int) : Bool := decide (0 ≤ op ∧ op ≤ 5)
theorem uses_tot (op : Int) : ∃ p, Tot (fun k => prog_uses.f k op) p ∧ p.2.2.1 = reck op := by
  have c : op = 0 ∨ op = 1 ∨ op = 2 ∨ op = 3 ∨ op = 4 ∨ op = 5 ∨ op = 6 ∨ op = 7 ∨ (op ≠ 0 ∧ op ≠ 1 ∧ op ≠ 2 ∧ op ≠ 3 ∧ op ≠ 4 ∧ op ≠ 5 ∧ op ≠ 6 ∧ op ≠ 7) := by omega
  rcases c with rfl | rfl | rfl | rfl | rfl | rfl | rfl | rfl | ⟨h0, h1, h2, h3, h4, h5, h6, h7⟩
  · exact ⟨_, Tot.succ (by simp only [prog_uses.f, prog_uses.j0]; exact Tot.const _), rfl⟩
  · exact ⟨_, Tot.succ (Tot.succ (by simp [prog_uses.f, prog_uses.j0, prog_uses.j1]; exact Tot.const _)), rfl⟩
  · exact ⟨_, Tot.succ (Tot.succ (by simp [prog_uses.f, prog_uses.j0, prog_uses.j1]; exact Tot.const _)), rfl⟩
  · exact ⟨_, Tot.succ (Tot.succ (Tot.succ (by simp [prog_uses.f, prog_uses.j0, prog_uses.j1, prog_uses.j2]; exact Tot.const _))), rfl⟩
  · exact ⟨_, Tot.succ (by simp [prog_uses.f, prog_uses.j0]; exact Tot.const _), rfl⟩
  · exact ⟨_, Tot.succ (Tot.succ (Tot.succ (by simp [prog_uses.f, prog_uses.j0, prog_uses.j1, prog_uses.j2]; exact Tot.const _))), rfl⟩
  · exact ⟨_, Tot.succ (Tot.succ (Tot.succ (by simp [prog_uses.f, prog_uses.j0, prog_uses.j1, prog_uses.j2]; exact Tot.const _))), rfl⟩
  · exact ⟨_, Tot.succ (Tot.succ (Tot.succ (by simp [prog_uses.f, prog_uses.j0, prog_uses.j1, prog_uses.j2]; exact Tot.const _))), rfl⟩
  · refine ⟨_, Tot.succ (Tot.succ (Tot.succ (by simp [prog_uses.f, prog_uses.j0, prog_uses.j1, prog_uses.j2, h0, h1, h2, h3, h4, h5, h6, h7]; exact Tot.const _))), ?_⟩
    unfold reck
    exact (decide_eq_false (by omega)).symm
noncomputable def numP (en : List S69) (s : S67) (left : Int) : Int × Int := if reck s.f0 = true ∧ left = 0 then evV en s.f3 else (0, 0)
def goP (s : S67) (pc left n len : Int) : (Int × Int) × List S72 × Int :=
  if s.f0 = 0 ∨ s.f0 = 3 ∨ s.f0 = 4 ∨ s.f0 = 5 then ((wrap64 (pc + 1), 0), [⟨s.f0, s.f1, s.f2, n⟩], 0)
  else if s.f0 = 7 then ((wrap64 (pc + 1), 0), [⟨s.f0, s.f1, (⟨#[]⟩ : ByteArray), 0⟩], 0)
  else if s.f0 = 1 then (if n = 0 then ((pc, left), [], 0) else ((wrap64 (pc + 1), 0), [], 0))
  else if s.f0 = 2 then (if left > 1 then ((pc, wrap64 (left - 1)), [], 0) else if left = 0 then (if n > 0 then ((pc, n), [], 0) else ((wrap64 (pc + 1), 0), [], 0)) else ((wrap64 (pc + 1), 0), [], 0))
  else if s.f0 = 6 then (if s.f4 < 0 then ((pc, left), [], 1) else if s.f4 > len then ((pc, left), [], 1) else ((s.f4, 0), [], 0))
  else ((wrap64 (pc + 1), 0), [], 0)
def RightP (l : List S67) (pc left : Int) : Prop := 0 ≤ pc ∧ pc ≤ l.length ∧ 0 ≤ left ∧ (left = 0 ∨ pc < l.length ∧ (rd_T67 l pc).f0 = 2)
theorem right_tot (l : List S67) (pc left : Int) : ∃ b, prog_Right.f l pc left = some b ∧ (b = true ↔ RightP l pc left) := by
  unfold prog_Right.f RightP
  by_cases h0 : pc < 0
  · rw [if_pos h0]; exact ⟨false, rfl, ⟨(fun h => nomatch h), fun h => by omega⟩⟩
  rw [if_neg h0]
  by_cases h1 : pc > (l.length : Int)
  · rw [if_pos h1]; exact ⟨false, rfl, ⟨(fun h => nomatch h), fun h => by omega⟩⟩
  rw [if_neg h1]
  by_cases h2 : left < 0
  · rw [if_pos h2]; exact ⟨false, rfl, ⟨(fun h => nomatch h), fun h => by omega⟩⟩
  rw [if_neg h2]
  by_cases h3 : left = 0
  · rw [if_pos h3]; exact ⟨true, rfl, ⟨fun _ => ⟨by omega, by omega, by omega, .inl h3⟩, fun _ => rfl⟩⟩
  rw [if_neg h3]
  by_cases h4 : pc < (l.length : Int)
  · rw [if_pos h4, if_pos (by omega)]
    refine ⟨_, rfl, ⟨fun h => ⟨by omega, by omega, by omega, .inr ⟨h4, beq_iff_eq.mp h⟩⟩, fun h => ?_⟩⟩
    rcases h.2.2.2 with h | h
    · exact absurd h h3
    · exact beq_iff_eq.mpr h.2
  · rw [if_neg h4]; exact ⟨false, rfl, ⟨(fun h => nomatch h), fun h => by rcases h.2.2.2 with h | h <;> omega⟩⟩
def stepR (s : S67) (pc left n len : Int) : Int × Int × Int × ByteArray × ByteArray × Int × Int × Int :=
  if s.f0 = 0 ∨ s.f0 = 3 ∨ s.f0 = 4 ∨ s.f0 = 5 then (wrap64 (pc + 1), 0, s.f0, s.f1, s.f2, n, 2, 0)
  else if s.f0 = 7 then (wrap64 (pc + 1), 0, s.f0, s.f1, (⟨#[]⟩ : ByteArray), 0, 2, 0)
  else if (goP s pc left n len).2.2 = 0 then ((goP s pc left n len).1.1, (goP s pc left n len).1.2, 0, (⟨#[]⟩ : ByteArray), (⟨#[]⟩ : ByteArray), 0, 1, 0)
  else (0, 0, 0, (⟨#[]⟩ : ByteArray), (⟨#[]⟩ : ByteArray), 0, 0, 1)
theorem j2_tot {l : List S67} {s : S67} {pc left n : Int} : Tot (fun k => prog_step.j2 k l n s.f0 (s.f0 == 0 || s.f0 == 3 || s.f0 == 4 || s.f0 == 5) pc left s.f0 s.f1 s.f2 s.f3.f0 s.f3.f1 s.f3.f2 s.f3.f3 s.f4 (wrap64 (pc + 1)) 0) (stepR s pc left n l.length) := by
  refine Tot.succ ?_
  simp only [prog_step.j2]
  unfold stepR
  by_cases hw : s.f0 = 0 ∨ s.f0 = 3 ∨ s.f0 = 4 ∨ s.f0 = 5
  · have hb : (s.f0 == 0 || s.f0 == 3 || s.f0 == 4 || s.f0 == 5) = true := by simp; omega
    simp only [hb, if_true, if_pos hw]; exact Tot.const _
  have hb : (s.f0 == 0 || s.f0 == 3 || s.f0 == 4 || s.f0 == 5) = false := by simp; omega
  simp only [hb, if_neg (show ¬ (false = true) by decide), if_neg hw]
  by_cases h7 : s.f0 = 7
  · simp only [if_pos h7]; exact Tot.const _
  simp only [if_neg h7]
  unfold goP
  simp only [if_neg hw, if_neg h7]
  by_cases h1 : s.f0 = 1
  · simp only [if_pos h1]
    by_cases hn : n = 0
    · simp only [if_pos hn, if_true]; exact Tot.const _
    · simp only [if_neg hn, if_true]; exact Tot.const _
  simp only [if_neg h1]
  by_cases h2 : s.f0 = 2
  · simp only [if_pos h2]
    unfold prog_delayed.f
    by_cases g1 : left > 1
    · simp only [if_pos g1, Option.bind_some, if_true]; exact Tot.const _
    · by_cases g2 : left = 0
      · by_cases g3 : n > 0
        · simp only [if_neg g1, if_pos g2, if_pos g3, Option.bind_some, if_true]; exact Tot.const _
        · simp only [if_neg g1, if_pos g2, if_neg g3, Option.bind_some, if_true]; exact Tot.const _
      · simp only [if_neg g1, if_neg g2, Option.bind_some, if_true]; exact Tot.const _
  simp only [if_neg h2]
  by_cases h6 : s.f0 = 6
  · simp only [if_pos h6]
    by_cases g1 : s.f4 < 0
    · simp only [if_pos g1, if_neg (show ¬ (1 : Int) = 0 by decide)]; exact Tot.const _
    · by_cases g2 : s.f4 > (l.length : Int)
      · simp only [if_neg g1, if_pos g2, if_neg (show ¬ (1 : Int) = 0 by decide)]; exact Tot.const _
      · simp only [if_neg g1, if_neg g2, if_true]; exact Tot.const _
  · simp only [if_neg h6, if_true]; exact Tot.const _
theorem j1_tot {l : List S67} {s : S67} {pc left n : Int} : Tot (fun k => prog_step.j1 k l n pc left s.f0 s.f1 s.f2 s.f3.f0 s.f3.f1 s.f3.f2 s.f3.f3 s.f4) (stepR s pc left n l.length) := by
  refine Tot.succ ?_
  have h := @j2_tot l s pc left n
  simp only [prog_step.j1]
  by_cases h0 : s.f0 = 0
  · rw [show (s.f0 == 0 || s.f0 == 3 || s.f0 == 4 || s.f0 == 5) = (s.f0 == 0) by simp [h0]] at h
    simp only [if_pos h0]; exact h
  by_cases h3 : s.f0 = 3
  · rw [show (s.f0 == 0 || s.f0 == 3 || s.f0 == 4 || s.f0 == 5) = (s.f0 == 3) by simp [h3]] at h
    simp only [if_neg h0, if_pos h3]; exact h
  by_cases h4 : s.f0 = 4
  · rw [show (s.f0 == 0 || s.f0 == 3 || s.f0 == 4 || s.f0 == 5) = (s.f0 == 4) by simp [h4]] at h
    simp only [if_neg h0, if_neg h3, if_pos h4]; exact h
  · rw [show (s.f0 == 0 || s.f0 == 3 || s.f0 == 4 || s.f0 == 5) = (s.f0 == 5) by simp [h0, h3, h4]] at h
    simp only [if_neg h0, if_neg h3, if_neg h4]; exact h
theorem step_tot {l : List S67} {pc left : Int} {en : List S69} (h0 : 0 ≤ pc) (h1 : pc < l.length) (hE : OkE (rd_T67 l pc).f3) (he : OkC en) :
    Tot (fun k => prog_step.f k l pc left en) (if (numP en (rd_T67 l pc) left).2 = 0 then stepR (rd_T67 l pc) pc left (numP en (rd_T67 l pc) left).1 l.length else (0, 0, 0, (⟨#[]⟩ : ByteArray), (⟨#[]⟩ : ByteArray), 0, 0, (numP en (rd_T67 l pc) left).2)) := by
  obtain ⟨u, hu, eu⟩ := uses_tot (rd_T67 l pc).f0
  obtain ⟨v1, _⟩ := evV_tot hE he
  unfold prog_step.f
  simp only [if_pos h0, if_pos h1]
  generalize rd_T67 l pc = s at *
  refine Tot.bind hu ?_
  rw [eu]
  unfold numP
  by_cases hr : reck s.f0 = true
  · simp only [if_pos hr]
    refine Tot.succ ?_
    simp only [prog_step.j0]
    by_cases hl : left = 0
    · have e1 : (left == 0) = true := beq_iff_eq.mpr hl
      simp only [e1, if_true, if_pos (And.intro hr hl)]
      refine Tot.bind v1 ?_
      by_cases hz : (evV en s.f3).2 = 0
      · simp only [if_pos hz]; exact j1_tot
      · simp only [if_neg hz]; exact Tot.const _
    · have e1 : (left == 0) = false := beq_eq_false_iff_ne.mpr hl
      simp only [e1, if_neg (show ¬ (false = true) by decide), if_neg (show ¬ (reck s.f0 = true ∧ left = 0) from fun h => hl h.2), if_true]
      exact j1_tot
  · simp only [if_neg hr, if_neg (show ¬ (reck s.f0 = true ∧ left = 0) from fun h => hr h.1), if_true]
    refine Tot.succ ?_
    simp only [prog_step.j0, if_neg (show ¬ (false = true) by decide)]
    exact j1_tot
noncomputable def scanP (l : List S67) (pc left : Int) (en : List S69) : Int × Int × List S72 × Bool × Int :=
  if pc = (l.length : Int) then (pc, left, [], true, 0)
  else if (numP en (rd_T67 l pc) left).2 = 0 then
    (if (goP (rd_T67 l pc) pc left (numP en (rd_T67 l pc) left).1 l.length).2.2 = 0 then
      ((goP (rd_T67 l pc) pc left (numP en (rd_T67 l pc) left).1 l.length).1.1, (goP (rd_T67 l pc) pc left (numP en (rd_T67 l pc) left).1 l.length).1.2, (goP (rd_T67 l pc) pc left (numP en (rd_T67 l pc) left).1 l.length).2.1, ((goP (rd_T67 l pc) pc left (numP en (rd_T67 l pc) left).1 l.length).1.1 == (l.length : Int)), 0)
    else (pc, left, [], false, 1))
  else (pc, left, [], false, (numP en (rd_T67 l pc) left).2)
theorem scan_tot {l : List S67} {pc left : Int} {en : List S69} (hR : RightP l pc left) (hE : ∀ s ∈ l, OkE s.f3) (he : OkC en) : Tot (fun k => prog_Scan.f k l pc left en) (scanP l pc left en) := by
  obtain ⟨b, hb, eb⟩ := right_tot l pc left
  obtain rfl : b = true := eb.mpr hR
  unfold prog_Scan.f scanP
  simp only [hb, Option.bind_some, if_true]
  by_cases hp : pc = (l.length : Int)
  · simp only [if_pos hp]; exact Tot.const _
  simp only [if_neg hp]
  have h0 := hR.1
  have h1 : pc < (l.length : Int) := by have := hR.2.1; omega
  have hm : rd_T67 l pc ∈ l := by
    obtain ⟨i, rfl⟩ : ∃ i : Nat, pc = (i : Int) := ⟨pc.toNat, by omega⟩
    unfold rd_T67; rw [Int.toNat_natCast, List.getD, List.getElem?_eq_getElem (by omega)]; exact List.getElem_mem _
  refine Tot.bind (step_tot h0 h1 (hE _ hm) he) ?_
  generalize rd_T67 l pc = s
  by_cases hz : (numP en s left).2 = 0
  · simp only [if_pos hz]
    unfold stepR goP
    by_cases hw : s.f0 = 0 ∨ s.f0 = 3 ∨ s.f0 = 4 ∨ s.f0 = 5
    · simp only [if_pos hw, if_true, List.length_nil, if_pos (show (0 : Nat) < 2932031007402 by decide), List.nil_append]; exact Tot.const _
    by_cases h7 : s.f0 = 7
    · simp only [if_neg hw, if_pos h7, if_true, List.length_nil, if_pos (show (0 : Nat) < 2932031007402 by decide), List.nil_append]; exact Tot.const _
    by_cases h1 : s.f0 = 1
    · by_cases hn : (numP en s left).1 = 0
      · simp only [if_neg hw, if_neg h7, if_pos h1, if_pos hn, if_true, if_neg (show ¬ (1 : Int) = 2 by decide)]; exact Tot.const _
      · simp only [if_neg hw, if_neg h7, if_pos h1, if_neg hn, if_true, if_neg (show ¬ (1 : Int) = 2 by decide)]; exact Tot.const _
    by_cases h2 : s.f0 = 2
    · by_cases g1 : left > 1
      · simp only [if_neg hw, if_neg h7, if_neg h1, if_pos h2, if_pos g1, if_true, if_neg (show ¬ (1 : Int) = 2 by decide)]; exact Tot.const _
      · by_cases g2 : left = 0
        · by_cases g3 : (numP en s left).1 > 0
          · simp only [if_neg hw, if_neg h7, if_neg h1, if_pos h2, if_neg g1, if_pos g2, if_pos g3, if_true, if_neg (show ¬ (1 : Int) = 2 by decide)]; exact Tot.const _
          · simp only [if_neg hw, if_neg h7, if_neg h1, if_pos h2, if_neg g1, if_pos g2, if_neg g3, if_true, if_neg (show ¬ (1 : Int) = 2 by decide)]; exact Tot.const _
        · simp only [if_neg hw, if_neg h7, if_neg h1, if_pos h2, if_neg g1, if_neg g2, if_true, if_neg (show ¬ (1 : Int) = 2 by decide)]; exact Tot.const _
    by_cases h6 : s.f0 = 6
    · by_cases g1 : s.f4 < 0
      · simp only [if_neg hw, if_neg h7, if_neg h1, if_neg h2, if_pos h6, if_pos g1, if_neg (show ¬ (1 : Int) = 0 by decide)]; exact Tot.const _
      · by_cases g2 : s.f4 > (l.length : Int)
        · simp only [if_neg hw, if_neg h7, if_neg h1, if_neg h2, if_pos h6, if_neg g1, if_pos g2, if_neg (show ¬ (1 : Int) = 0 by decide)]; exact Tot.const _
        · simp only [if_neg hw, if_neg h7, if_neg h1, if_neg h2, if_pos h6, if_neg g1, if_neg g2, if_true, if_neg (show ¬ (1 : Int) = 2 by decide)]; exact Tot.const _
    · simp only [if_neg hw, if_neg h7, if_neg h1, if_neg h2, if_neg h6, if_true, if_neg (show ¬ (1 : Int) = 2 by decide)]; exact Tot.const _
  · simp only [if_neg hz]; exact Tot.const _
end Go.Proofs.YtiaccdaeomaogaaDoor.F
namespace Go.Proofs.YtiaccdaeomaogaaDoor.F
open Go.RowKit Go.Proofs.YtiaccdaeomaogaaDoorW.PrintWords Go.Proofs.YtiaccdaeomaogaaDoorW.PrintLast Go.Proofs.YtiaccdaeomaogaaDoorW.PrintMore
attribute [local go_sem] max2_int min2_int max_two min_two max_three min_three max_four min_four   -- for this text's walks alone
set_option linter.unusedVariables false
set_option linter.unusedSimpArgs false
def malthouseref11_Light.l0 : Nat → List (S67) → Int → Option (Bool)
  | 0, _, _ => none
  | k + 1, x0, x3 => if x3 < (x0.length : Int) then (if 0 ≤ x3 then (if (((rd_T67 x0 x3).f1).size : Int) > 200 then (some false) else (if (((rd_T67 x0 x3).f2).size : Int) > 200 then (some false) else ((malthouseref02_Weight.f k ((rd_T67 x0 x3).f3.f0) ((rd_T67 x0 x3).f3.f1) ((rd_T67 x0 x3).f3.f2) ((rd_T67 x0 x3).f3.f3) 200).bind fun t104 => (if t104 = 0 then (some false) else (malthouseref11_Light.l0 k x0 (wrap64 (x3 + 1))))))) else (none)) else (some true)
def malthouseref11_Light.f (k : Nat) (l0 : List (S67)) : Option (Bool) := if (l0.length : Int) > 100 then (some false) else (malthouseref11_Light.l0 k l0 0)
set_option maxHeartbeats 8000000 in
set_option maxRecDepth 100000 in
theorem malthouseref11_Light.calls (k : Nat) (A0 : Option Addr) (c0 : Nat) (l0 : List (S67)) (r : Bool) (w : World) (hr0 : Kd.C k67 w A0 l0.length l0) (hc0 : l0.length ≤ c0) (h : malthouseref11_Light.f k l0 = some r) :
  Calls Tryd.prog 36 #[.slice A0 l0.length c0] w fun e w' => e = .returned (.bool r) ∧ Below w.heap.size w w' := by
 have hu34 := Tryd.underlying34
 have HR0 := Aside0.mk hr0
 have HC0 := Aside0.mk hc0
 clear hr0 hc0
 have HB := Aside0.mk (Below.refl w.heap.size w)
 have H : (if (l0.length : Int) > 100 then (some false) else (malthouseref11_Light.l0 k l0 0)) = some r := h
 clear h
 by_cases c2 : (l0.length : Int) > 100
 ·rw [if_pos c2] at H
  have c2b0 : decide (100 < (l0.length : Int)) = true := decide_eq_true c2
  have c2b1 : decide (100 < l0.length) = true := decide_eq_true (by omega)
  clear c2
  obtain rfl := Option.some.inj H
  go_enter Tryd.func36, Tryd.ntmps36
  go_wp2
  go_ret
  exact qr
 rw [if_neg c2] at H
 have c2b0 : decide (100 < (l0.length : Int)) = false := decide_eq_false c2
 have c2b1 : decide (100 < l0.length) = false := decide_eq_false (by omega)
 clear c2
 have H' := Aside0.mk H
 clear H
 go_enter Tryd.func36, Tryd.ntmps36
 go_wp2
 go_loopg [3] k (fun kq v3 w' => ∃ (x3_1 : Int), v3 = .int .i64 x3_1 ∧ Aside0 (malthouseref11_Light.l0 kq l0 x3_1 = some r) ∧ Aside0 (kq ≤ k) ∧ Aside0 (Below w.heap.size w w'))
 case atStart => exact ⟨(0), qv, H', ⟨Nat.le_refl _⟩, qB⟩
 case round =>
  clear H'
  obtain ⟨x3_1, rfl, HA, HK1, HB⟩ := hrel
  cases gk with
  | zero => exact absurd HA.out (by simp [malthouseref11_Light.l0])
  | succ k1 =>
   have H := HA.out
   clear HA
   simp only [malthouseref11_Light.l0] at H
   by_cases c3 : x3_1 < (l0.length : Int)
   ·rw [if_pos c3] at H
    have c3b0 : decide (x3_1 < (l0.length : Int)) = true := decide_eq_true c3
    clear c3
    by_cases c4 : 0 ≤ x3_1
    ·rw [if_pos c4] at H
     have c4b0 : decide (0 ≤ x3_1) = true := decide_eq_true c4
     clear c4
     by_cases c5 : (((rd_T67 l0 x3_1).f1).size : Int) > 200
     ·rw [if_pos c5] at H
      have c5b0 : decide (200 < (((rd_T67 l0 x3_1).f1).size : Int)) = true := decide_eq_true c5
      have c5b1 : decide (200 < ((rd_T67 l0 x3_1).f1).size) = true := decide_eq_true (by omega)
      clear c5
      obtain rfl := Option.some.inj H
      have p101 : 0 ≤ (x3_1 : Int) := qa
      have q101 : x3_1 < (l0.length : Int) := qa
      obtain ⟨ad101, A101_6, c101_6, e101, hx101_0, hx101_1, hx101_2, hx101_3, hx101_4, hx101_5, hx101_6, hx101_7, hl101_6, hi101_6⟩ := at_T67 HR0.out x3_1 p101 q101
      cases e101
      replace hx101_0 := qc HB.out hx101_0
      replace hx101_1 := qc HB.out hx101_1
      replace hx101_2 := qc HB.out hx101_2
      replace hx101_3 := qc HB.out hx101_3
      replace hx101_4 := qc HB.out hx101_4
      replace hx101_5 := qc HB.out hx101_5
      replace hx101_6 := qc HB.out hx101_6
      replace hx101_7 := qc HB.out hx101_7
      have HR101_6 := Aside0.mk hi101_6
      have HC101_6 := Aside0.mk hl101_6
      clear hi101_6 hl101_6
      replace p101 := eq_true p101
      replace q101 := eq_true q101
      go_wp2
      go_ret
      exact qr
     rw [if_neg c5] at H
     have c5b0 : decide (200 < (((rd_T67 l0 x3_1).f1).size : Int)) = false := decide_eq_false c5
     have c5b1 : decide (200 < ((rd_T67 l0 x3_1).f1).size) = false := decide_eq_false (by omega)
     clear c5
     by_cases c6 : (((rd_T67 l0 x3_1).f2).size : Int) > 200
     ·rw [if_pos c6] at H
      have c6b0 : decide (200 < (((rd_T67 l0 x3_1).f2).size : Int)) = true := decide_eq_true c6
      have c6b1 : decide (200 < ((rd_T67 l0 x3_1).f2).size) = true := decide_eq_true (by omega)
      clear c6
      obtain rfl := Option.some.inj H
      have p101 : 0 ≤ (x3_1 : Int) := qa
      have q101 : x3_1 < (l0.length : Int) := qa
      obtain ⟨ad101, A101_6, c101_6, e101, hx101_0, hx101_1, hx101_2, hx101_3, hx101_4, hx101_5, hx101_6, hx101_7, hl101_6, hi101_6⟩ := at_T67 HR0.out x3_1 p101 q101
      cases e101
      replace hx101_0 := qc HB.out hx101_0
      replace hx101_1 := qc HB.out hx101_1
      replace hx101_2 := qc HB.out hx101_2
      replace hx101_3 := qc HB.out hx101_3
      replace hx101_4 := qc HB.out hx101_4
      replace hx101_5 := qc HB.out hx101_5
      replace hx101_6 := qc HB.out hx101_6
      replace hx101_7 := qc HB.out hx101_7
      have HR101_6 := Aside0.mk hi101_6
      have HC101_6 := Aside0.mk hl101_6
      clear hi101_6 hl101_6
      replace p101 := eq_true p101
      replace q101 := eq_true q101
      have p102 : 0 ≤ (x3_1 : Int) := qa
      have q102 : x3_1 < (l0.length : Int) := qa
      obtain ⟨ad102, A102_6, c102_6, e102, hx102_0, hx102_1, hx102_2, hx102_3, hx102_4, hx102_5, hx102_6, hx102_7, hl102_6, hi102_6⟩ := at_T67 HR0.out x3_1 p102 q102
      obtain rfl : ad101 = ad102 := (by injection e102)
      replace hx102_0 := qc HB.out hx102_0
      replace hx102_1 := qc HB.out hx102_1
      replace hx102_2 := qc HB.out hx102_2
      replace hx102_3 := qc HB.out hx102_3
      replace hx102_4 := qc HB.out hx102_4
      replace hx102_5 := qc HB.out hx102_5
      replace hx102_6 := qc HB.out hx102_6
      replace hx102_7 := qc HB.out hx102_7
      have HR102_6 := Aside0.mk hi102_6
      have HC102_6 := Aside0.mk hl102_6
      clear hi102_6 hl102_6
      replace p102 := eq_true p102
      replace q102 := eq_true q102
      have ea_ := Option.some.inj (hx101_6.symm.trans hx102_6)
      injection ea_ with ea_ en_ ec_
      subst ea_
      subst ec_
      clear en_
      go_wp2
      go_ret
      exact qr
     rw [if_neg c6] at H
     have c6b0 : decide (200 < (((rd_T67 l0 x3_1).f2).size : Int)) = false := decide_eq_false c6
     have c6b1 : decide (200 < ((rd_T67 l0 x3_1).f2).size) = false := decide_eq_false (by omega)
     clear c6
     replace H := qi H
     obtain ⟨t104, A7, H⟩ := H
     by_cases c8 : t104 = 0
     ·rw [if_pos c8] at H
      obtain ⟨c8b0, c8b1⟩ := qe c8
      clear c8
      obtain rfl := Option.some.inj H
      have p101 : 0 ≤ (x3_1 : Int) := qa
      have q101 : x3_1 < (l0.length : Int) := qa
      obtain ⟨ad101, A101_6, c101_6, e101, hx101_0, hx101_1, hx101_2, hx101_3, hx101_4, hx101_5, hx101_6, hx101_7, hl101_6, hi101_6⟩ := at_T67 HR0.out x3_1 p101 q101
      cases e101
      replace hx101_0 := qc HB.out hx101_0
      replace hx101_1 := qc HB.out hx101_1
      replace hx101_2 := qc HB.out hx101_2
      replace hx101_3 := qc HB.out hx101_3
      replace hx101_4 := qc HB.out hx101_4
      replace hx101_5 := qc HB.out hx101_5
      replace hx101_6 := qc HB.out hx101_6
      replace hx101_7 := qc HB.out hx101_7
      have HR101_6 := Aside0.mk hi101_6
      have HC101_6 := Aside0.mk hl101_6
      clear hi101_6 hl101_6
      replace p101 := eq_true p101
      replace q101 := eq_true q101
      have p102 : 0 ≤ (x3_1 : Int) := qa
      have q102 : x3_1 < (l0.length : Int) := qa
      obtain ⟨ad102, A102_6, c102_6, e102, hx102_0, hx102_1, hx102_2, hx102_3, hx102_4, hx102_5, hx102_6, hx102_7, hl102_6, hi102_6⟩ := at_T67 HR0.out x3_1 p102 q102
      obtain rfl : ad101 = ad102 := (by injection e102)
      replace hx102_0 := qc HB.out hx102_0
      replace hx102_1 := qc HB.out hx102_1
      replace hx102_2 := qc HB.out hx102_2
      replace hx102_3 := qc HB.out hx102_3
      replace hx102_4 := qc HB.out hx102_4
      replace hx102_5 := qc HB.out hx102_5
      replace hx102_6 := qc HB.out hx102_6
      replace hx102_7 := qc HB.out hx102_7
      have HR102_6 := Aside0.mk hi102_6
      have HC102_6 := Aside0.mk hl102_6
      clear hi102_6 hl102_6
      replace p102 := eq_true p102
      replace q102 := eq_true q102
      have ea_ := Option.some.inj (hx101_6.symm.trans hx102_6)
      injection ea_ with ea_ en_ ec_
      subst ea_
      subst ec_
      clear en_
      have p103 : 0 ≤ (x3_1 : Int) := qa
      have q103 : x3_1 < (l0.length : Int) := qa
      obtain ⟨ad103, A103_6, c103_6, e103, hx103_0, hx103_1, hx103_2, hx103_3, hx103_4, hx103_5, hx103_6, hx103_7, hl103_6, hi103_6⟩ := at_T67 HR0.out x3_1 p103 q103
      obtain rfl : ad101 = ad103 := (by injection e103)
      replace hx103_0 := qc HB.out hx103_0
      replace hx103_1 := qc HB.out hx103_1
      replace hx103_2 := qc HB.out hx103_2
      replace hx103_3 := qc HB.out hx103_3
      replace hx103_4 := qc HB.out hx103_4
      replace hx103_5 := qc HB.out hx103_5
      replace hx103_6 := qc HB.out hx103_6
      replace hx103_7 := qc HB.out hx103_7
      have HR103_6 := Aside0.mk hi103_6
      have HC103_6 := Aside0.mk hl103_6
      clear hi103_6 hl103_6
      replace p103 := eq_true p103
      replace q103 := eq_true q103
      have ea_ := Option.some.inj (hx101_6.symm.trans hx103_6)
      injection ea_ with ea_ en_ ec_
      subst ea_
      subst ec_
      clear en_
      go_wp2_with (first | (go_at_call 28; (with_reducible refine (malthouseref02_Weight.calls k1 ((rd_T67 l0 x3_1).f3.f0) ((rd_T67 l0 x3_1).f3.f1) ((rd_T67 l0 x3_1).f3.f2) _ _ ((rd_T67 l0 x3_1).f3.f3) 200 t104 _ ?side1 ?side2 A7.out).mono ?_); (case side1 => exact qC HR103_6.out); (case side2 => exact HC103_6.out); rintro e w9 ⟨rfl, hb⟩; have n0_ := qs hb; clear HB; have HB := n0_; clear n0_; (try clear hb)))
      go_ret
      exact qr
     rw [if_neg c8] at H
     obtain ⟨c8b0, c8b1⟩ := qd c8
     have H' := Aside0.mk H
     clear H
     have p101 : 0 ≤ (x3_1 : Int) := qa
     have q101 : x3_1 < (l0.length : Int) := qa
     obtain ⟨ad101, A101_6, c101_6, e101, hx101_0, hx101_1, hx101_2, hx101_3, hx101_4, hx101_5, hx101_6, hx101_7, hl101_6, hi101_6⟩ := at_T67 HR0.out x3_1 p101 q101
     cases e101
     replace hx101_0 := qc HB.out hx101_0
     replace hx101_1 := qc HB.out hx101_1
     replace hx101_2 := qc HB.out hx101_2
     replace hx101_3 := qc HB.out hx101_3
     replace hx101_4 := qc HB.out hx101_4
     replace hx101_5 := qc HB.out hx101_5
     replace hx101_6 := qc HB.out hx101_6
     replace hx101_7 := qc HB.out hx101_7
     have HR101_6 := Aside0.mk hi101_6
     have HC101_6 := Aside0.mk hl101_6
     clear hi101_6 hl101_6
     replace p101 := eq_true p101
     replace q101 := eq_true q101
     have p102 : 0 ≤ (x3_1 : Int) := qa
     have q102 : x3_1 < (l0.length : Int) := qa
     obtain ⟨ad102, A102_6, c102_6, e102, hx102_0, hx102_1, hx102_2, hx102_3, hx102_4, hx102_5, hx102_6, hx102_7, hl102_6, hi102_6⟩ := at_T67 HR0.out x3_1 p102 q102
     obtain rfl : ad101 = ad102 := (by injection e102)
     replace hx102_0 := qc HB.out hx102_0
     replace hx102_1 := qc HB.out hx102_1
     replace hx102_2 := qc HB.out hx102_2
     replace hx102_3 := qc HB.out hx102_3
     replace hx102_4 := qc HB.out hx102_4
     replace hx102_5 := qc HB.out hx102_5
     replace hx102_6 := qc HB.out hx102_6
     replace hx102_7 := qc HB.out hx102_7
     have HR102_6 := Aside0.mk hi102_6
     have HC102_6 := Aside0.mk hl102_6
     clear hi102_6 hl102_6
     replace p102 := eq_true p102
     replace q102 := eq_true q102
     have ea_ := Option.some.inj (hx101_6.symm.trans hx102_6)
     injection ea_ with ea_ en_ ec_
     subst ea_
     subst ec_
     clear en_
     have p103 : 0 ≤ (x3_1 : Int) := qa
     have q103 : x3_1 < (l0.length : Int) := qa
     obtain ⟨ad103, A103_6, c103_6, e103, hx103_0, hx103_1, hx103_2, hx103_3, hx103_4, hx103_5, hx103_6, hx103_7, hl103_6, hi103_6⟩ := at_T67 HR0.out x3_1 p103 q103
     obtain rfl : ad101 = ad103 := (by injection e103)
     replace hx103_0 := qc HB.out hx103_0
     replace hx103_1 := qc HB.out hx103_1
     replace hx103_2 := qc HB.out hx103_2
     replace hx103_3 := qc HB.out hx103_3
     replace hx103_4 := qc HB.out hx103_4
     replace hx103_5 := qc HB.out hx103_5
     replace hx103_6 := qc HB.out hx103_6
     replace hx103_7 := qc HB.out hx103_7
     have HR103_6 := Aside0.mk hi103_6
     have HC103_6 := Aside0.mk hl103_6
     clear hi103_6 hl103_6
     replace p103 := eq_true p103
     replace q103 := eq_true q103
     have ea_ := Option.some.inj (hx101_6.symm.trans hx103_6)
     injection ea_ with ea_ en_ ec_
     subst ea_
     subst ec_
     clear en_
     go_wp2_with (first | (go_at_call 28; (with_reducible refine (malthouseref02_Weight.calls k1 ((rd_T67 l0 x3_1).f3.f0) ((rd_T67 l0 x3_1).f3.f1) ((rd_T67 l0 x3_1).f3.f2) _ _ ((rd_T67 l0 x3_1).f3.f3) 200 t104 _ ?side1 ?side2 A7.out).mono ?_); (case side1 => exact qC HR103_6.out); (case side2 => exact HC103_6.out); rintro e w10 ⟨rfl, hb⟩; have n0_ := qs hb; clear HB; have HB := n0_; clear n0_; (try clear hb)))
     go_roundg k1
     case measure => have := HK1.out; omega
     case rel => exact ⟨(wrap64 (x3_1 + 1)), qv, H', ⟨by have := HK1.out; omega⟩, qB⟩
    rw [if_neg c4] at H
    exact absurd H (by simp)
   rw [if_neg c3] at H
   have c3b0 : decide (x3_1 < (l0.length : Int)) = false := decide_eq_false c3
   clear c3
   obtain rfl := Option.some.inj H
   go_wp2
   go_ret
   exact qr
def malthouselaw11_cells.l0 : Nat → List (S69) → Int → Option (Bool)
  | 0, _, _ => none
  | k + 1, x0, x3 => if x3 < (x0.length : Int) then (if 0 ≤ x3 then (if (((rd_T69 x0 x3).f0).size : Int) > 200 then (some false) else (malthouselaw11_cells.l0 k x0 (wrap64 (x3 + 1)))) else (none)) else (some true)
def malthouselaw11_cells.f (k : Nat) (l0 : List (S69)) : Option (Bool) := if (l0.length : Int) > 100 then (some false) else (malthouselaw11_cells.l0 k l0 0)
set_option maxHeartbeats 8000000 in
set_option maxRecDepth 100000 in
theorem malthouselaw11_cells.calls (k : Nat) (A0 : Option Addr) (c0 : Nat) (l0 : List (S69)) (r : Bool) (w : World) (hr0 : Kd.C k69 w A0 l0.length l0) (hc0 : l0.length ≤ c0) (h : malthouselaw11_cells.f k l0 = some r) :
  Calls Tryd.prog 37 #[.slice A0 l0.length c0] w fun e w' => e = .returned (.bool r) ∧ Drawn0 w w' := by
 have HR0 := Aside0.mk hr0
 have HC0 := Aside0.mk hc0
 clear hr0 hc0
 have H : (if (l0.length : Int) > 100 then (some false) else (malthouselaw11_cells.l0 k l0 0)) = some r := h
 clear h
 by_cases c2 : (l0.length : Int) > 100
 ·rw [if_pos c2] at H
  have c2b0 : decide (100 < (l0.length : Int)) = true := decide_eq_true c2
  have c2b1 : decide (100 < l0.length) = true := decide_eq_true (by omega)
  clear c2
  obtain rfl := Option.some.inj H
  go_enter Tryd.func37, Tryd.ntmps37
  go_wp2
  go_ret
  exact ⟨by first | rfl | (simp; done) | (simp [*]; done), by repeat (first | exact Drawn0.refl _ | apply Drawn0.step)⟩
 rw [if_neg c2] at H
 have c2b0 : decide (100 < (l0.length : Int)) = false := decide_eq_false c2
 have c2b1 : decide (100 < l0.length) = false := decide_eq_false (by omega)
 clear c2
 have H' := Aside0.mk H
 clear H
 go_enter Tryd.func37, Tryd.ntmps37
 go_wp2
 go_loopg [3] k (fun kq v3 w' => ∃ (x3_1 : Int), v3 = .int .i64 x3_1 ∧ Aside0 (malthouselaw11_cells.l0 kq l0 x3_1 = some r) ∧ Aside0 (kq ≤ k) ∧ Drawn0 w w')
 case atStart => exact ⟨(0), qv, H', ⟨Nat.le_refl _⟩, by repeat (first | exact Drawn0.refl _ | apply Drawn0.step)⟩
 case round =>
  clear H'
  obtain ⟨x3_1, rfl, HA, HK1, ⟨m1, rfl⟩⟩ := hrel
  cases gk with
  | zero => exact absurd HA.out (by simp [malthouselaw11_cells.l0])
  | succ k1 =>
   have H := HA.out
   clear HA
   simp only [malthouselaw11_cells.l0] at H
   by_cases c3 : x3_1 < (l0.length : Int)
   ·rw [if_pos c3] at H
    have c3b0 : decide (x3_1 < (l0.length : Int)) = true := decide_eq_true c3
    clear c3
    by_cases c4 : 0 ≤ x3_1
    ·rw [if_pos c4] at H
     have c4b0 : decide (0 ≤ x3_1) = true := decide_eq_true c4
     clear c4
     by_cases c5 : (((rd_T69 l0 x3_1).f0).size : Int) > 200
     ·rw [if_pos c5] at H
      have c5b0 : decide (200 < (((rd_T69 l0 x3_1).f0).size : Int)) = true := decide_eq_true c5
      have c5b1 : decide (200 < ((rd_T69 l0 x3_1).f0).size) = true := decide_eq_true (by omega)
      clear c5
      obtain rfl := Option.some.inj H
      have p101 : 0 ≤ (x3_1 : Int) := qa
      have q101 : x3_1 < (l0.length : Int) := qa
      obtain ⟨ad101, e101, hx101_0, hx101_1⟩ := at_T69 HR0.out x3_1 p101 q101
      cases e101
      replace p101 := eq_true p101
      replace q101 := eq_true q101
      go_wp2
      go_ret
      exact ⟨by first | rfl | (simp; done) | (simp [*]; done), by repeat (first | exact Drawn0.refl _ | apply Drawn0.step)⟩
     rw [if_neg c5] at H
     have c5b0 : decide (200 < (((rd_T69 l0 x3_1).f0).size : Int)) = false := decide_eq_false c5
     have c5b1 : decide (200 < ((rd_T69 l0 x3_1).f0).size) = false := decide_eq_false (by omega)
     clear c5
     have H' := Aside0.mk H
     clear H
     have p101 : 0 ≤ (x3_1 : Int) := qa
     have q101 : x3_1 < (l0.length : Int) := qa
     obtain ⟨ad101, e101, hx101_0, hx101_1⟩ := at_T69 HR0.out x3_1 p101 q101
     cases e101
     replace p101 := eq_true p101
     replace q101 := eq_true q101
     go_wp2
     go_roundg k1
     case measure => have := HK1.out; omega
     case rel => exact ⟨(wrap64 (x3_1 + 1)), qv, H', ⟨by have := HK1.out; omega⟩, by repeat (first | exact Drawn0.refl _ | apply Drawn0.step)⟩
    rw [if_neg c4] at H
    exact absurd H (by simp)
   rw [if_neg c3] at H
   have c3b0 : decide (x3_1 < (l0.length : Int)) = false := decide_eq_false c3
   clear c3
   obtain rfl := Option.some.inj H
   go_wp2
   go_ret
   exact ⟨by first | rfl | (simp; done) | (simp [*]; done), by repeat (first | exact Drawn0.refl _ | apply Drawn0.step)⟩
theorem eqA57 (d : Nat) (w : World) (x0 y0 : Int) (x1 y1 : Int) :
    (Op.equalIn (d + 2) 57 (.agg #[.int .i64 x0, .int .i64 x1]) (.agg #[.int .i64 y0, .int .i64 y1])).run Tryd.prog w = .ok (x0 == y0 && (x1 == y1)) w := by
  refine eqA_of Tryd.underlying57 (by kernel_rfl) ?_
  refine eqf_cons (by rfl) (by go_simp; rfl) (by go_simp; rfl) (by go_simp) ?_
  exact eqf_last (by rfl) (by go_simp; rfl) (by go_simp; rfl) (by go_simp)
theorem eqA72 (d : Nat) (w : World) (x0 y0 : Int) (x1 y1 : ByteArray) (x2 y2 : ByteArray) (x3 y3 : Int) :
    (Op.equalIn (d + 2) 72 (.agg #[.int .i64 x0, .string x1, .string x2, .int .i64 x3]) (.agg #[.int .i64 y0, .string y1, .string y2, .int .i64 y3])).run Tryd.prog w = .ok (x0 == y0 && (x1.toList == y1.toList && (x2.toList == y2.toList && (x3 == y3)))) w := by
  refine eqA_of Tryd.underlying72 (by kernel_rfl) ?_
  refine eqf_cons (by rfl) (by go_simp; rfl) (by go_simp; rfl) (by go_simp) ?_
  refine eqf_cons (by rfl) (by go_simp; rfl) (by go_simp; rfl) (by go_simp) ?_
  refine eqf_cons (by rfl) (by go_simp; rfl) (by go_simp; rfl) (by go_simp) ?_
  exact eqf_last (by rfl) (by go_simp; rfl) (by go_simp; rfl) (by go_simp)
def malthouselaw11_num.f (a0 : Int) : Option (Int × Int × ByteArray × (List (S34))) := some (0, a0, (⟨#[]⟩ : ByteArray), ([] : List (S34)))
set_option maxHeartbeats 8000000 in
set_option maxRecDepth 100000 in
theorem malthouselaw11_num.calls (a0 : Int) (r1 : Int) (r2 : Int) (r3 : ByteArray) (r4 : List (S34)) (w : World) (h : malthouselaw11_num.f a0 = some (r1, r2, r3, r4)) :
    Calls Tryd.prog 69 #[.int .i64 a0] w fun e w' => ∃ v3_ : Value, e = .returned (.agg #[.int .i64 r1, .int .i64 r2, .string r3, v3_]) ∧ Kd.R k34 34 w' w.heap.size (fun _ => True) v3_ r4 ∧ Below w.heap.size w w' := by
  have hu34 := Tryd.underlying34
  have HB := Aside0.mk (Below.refl w.heap.size w)
  have H : (some (0, a0, (⟨#[]⟩ : ByteArray), ([] : List (S34)))) = some (r1, r2, r3, r4) := h
  clear h
  simp only [Option.some.injEq, Prod.mk.injEq] at H
  obtain ⟨rfl, rfl, rfl, rfl⟩ := H
  go_enter Tryd.func69, Tryd.ntmps69
  go_wp2_with (first | ((with_reducible refine gate_dst (N := 2) rfl ?_); refine box_event ?hg (N := 2) ?hd (cs := #[.int .i64 0, .int .i64 0, .string (⟨#[]⟩ : ByteArray), .slice none 0 0]) (t := 34) ?hr ?_; (case hd => rfl); (case hg => rfl); (case hr => first | (go_simp; done) | (go_simp; rfl)); intro gb101 hg w2 hbox hb; have n0_ := qs hb; have n1_ := Aside0.mk (hbox); have n2_ := Aside0.mk ((by rw [hg]; exact (below_size qb) : w.heap.size ≤ gb101)); have n3_ := Aside0.mk ((by rw [hg]; exact (below_size qb) : w.heap.size ≤ gb101)); clear HB; have HB := n0_; have BK101 := n1_; have GW101 := n2_; have GE101 := n3_; clear n0_ n1_ n2_ n3_; clear hb hbox hg; obtain ⟨_, _, _, _, _, _, _, _⟩ := q4 BK101.out))
  refine bodyPost_ret (results_cell_row rfl _ _ gb101 34 #[.int .i64 0, .int .i64 a0, .string (⟨#[]⟩ : ByteArray), .slice none 0 0] (0, 0) _ rfl qy101 Tryd.underlying34 rfl (by kernel_rfl)) rfl ?_
  exact ⟨_, by first | rfl | (simp [errW_none, errW_some] <;> rfl) | (simp [*, errW_none, errW_some] <;> rfl), by first | exact Kd.R_nil _ _ _ _ _ | exact Kd.N_nil _ _ _ _ _ | exact Kd.V_nil _ _ _ _ _ | exact Kd.Q_nil _ _ _ _ _ | exact Kd.S_nil _ _ _ _ _, qb⟩
end Go.Proofs.YtiaccdaeomaogaaDoor.F
