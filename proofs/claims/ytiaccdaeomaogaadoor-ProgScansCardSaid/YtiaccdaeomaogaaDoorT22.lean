/- Texts of one claim, slimmed and merged by slim.py. -/
import Derived.Test.YtiaccdaeomaogaaDoorT4
import Derived.Test.YtiaccdaeomaogaaDoorT17
import Derived.Test.YtiaccdaeomaogaaDoorT21
namespace Go.Proofs.YtiaccdaeomaogaaDoor.F
open Go.RowKit Go.Proofs.YtiaccdaeomaogaaDoorW.PrintWords Go.Proofs.YtiaccdaeomaogaaDoorW.PrintLast Go.Proofs.YtiaccdaeomaogaaDoorW.PrintMore
set_option linter.unusedVariables false
set_option linter.unusedSimpArgs false
theorem upTo {α : Type} {f : Nat → Option α} (hm : ∀ k, LeO (f k) (f (k + 1))) {k : Nat} {v : α} (h : f k = some v) : Tot f v := by
  refine ⟨k, fun j hj => ?_⟩
  obtain ⟨n, rfl⟩ : ∃ n, j = k + n := ⟨j - k, by omega⟩
  clear hj
  induction n with
  | zero => exact h
  | succ n ih => exact hm _ _ ih
theorem awake11_tot : Tot (fun k => malthouselaw11_awake.f k) true := upTo (f := fun k => malthouselaw11_awake.f k) malthouselaw11_awake.mono (show malthouselaw11_awake.f 40 = some true by decide +kernel)
theorem rdS_mem {l : List S67} {i : Nat} (h : i < l.length) : rd_T67 l (i : Int) ∈ l := by
  unfold rd_T67; rw [Int.toNat_natCast, List.getD, List.getElem?_eq_getElem h]; exact List.getElem_mem h
theorem dropS {l : List S67} {i : Nat} (h : i < l.length) : l.drop i = rd_T67 l (i : Int) :: l.drop (i + 1) := by
  rw [List.drop_eq_getElem_cons h]
  unfold rd_T67; rw [Int.toNat_natCast, List.getD, List.getElem?_eq_getElem h]; rfl
theorem Light11_l0 (l : List S67) (hl : l.length ≤ 100) (hI : ∀ y ∈ l, OkI y.f3) : ∀ (m i : Nat), i + m = l.length → ∃ b, Tot (fun k => malthouseref11_Light.l0 k l (i : Int)) b ∧ (b = true → ∀ s ∈ l.drop i, OkE s.f3 ∧ s.f1.size ≤ 200 ∧ s.f2.size ≤ 200)
  | 0, i, e => by
    refine ⟨true, Tot.succ ?_, fun _ r hr => by rw [List.drop_eq_nil_of_le (by omega)] at hr; cases hr⟩
    simp only [malthouseref11_Light.l0, if_neg (show ¬ (i : Int) < (l.length : Int) by omega)]
    exact Tot.const _
  | m + 1, i, e => by
    have hi : i < l.length := by omega
    have hR := hI _ (rdS_mem hi)
    obtain ⟨b, hb, hk⟩ := Light11_l0 l hl hI m (i + 1) (by omega)
    rw [dropS hi]
    by_cases h1 : ((rd_T67 l (i : Int)).f1.size : Int) > 200
    · refine ⟨false, Tot.succ ?_, fun h => by cases h⟩
      simp only [malthouseref11_Light.l0, if_pos (show (i : Int) < (l.length : Int) by omega), if_pos (show 0 ≤ (i : Int) by omega), if_pos h1]; exact Tot.const _
    by_cases h2 : ((rd_T67 l (i : Int)).f2.size : Int) > 200
    · refine ⟨false, Tot.succ ?_, fun h => by cases h⟩
      simp only [malthouseref11_Light.l0, if_pos (show (i : Int) < (l.length : Int) by omega), if_pos (show 0 ≤ (i : Int) by omega), if_neg h1, if_pos h2]; exact Tot.const _
    obtain ⟨t, ht, t0, tb, tk⟩ := Weight_tot hR 200 (by omega) (by omega)
    by_cases ht0 : t = 0
    · refine ⟨false, Tot.succ ?_, fun h => by cases h⟩
      simp only [malthouseref11_Light.l0, if_pos (show (i : Int) < (l.length : Int) by omega), if_pos (show 0 ≤ (i : Int) by omega), if_neg h1, if_neg h2]
      exact Tot.bind ht (by simp only [if_pos ht0]; exact Tot.const _)
    · refine ⟨b, Tot.succ ?_, fun h s hs => ?_⟩
      · simp only [malthouseref11_Light.l0, if_pos (show (i : Int) < (l.length : Int) by omega), if_pos (show 0 ≤ (i : Int) by omega), if_neg h1, if_neg h2, w1 (show 0 ≤ (i : Int) by omega) (show (i : Int) < 9223372036854775807 by omega)]
        exact Tot.bind ht (by simp only [if_neg ht0]; exact hb)
      · rcases List.mem_cons.mp hs with rfl | hs
        · exact ⟨tk ht0, by omega, by omega⟩
        · exact hk h s hs
theorem Light11_tot (l : List S67) (hI : ∀ y ∈ l, OkI y.f3) : ∃ b, Tot (fun k => malthouseref11_Light.f k l) b ∧ (b = true → l.length ≤ 100 ∧ ∀ s ∈ l, OkE s.f3 ∧ s.f1.size ≤ 200 ∧ s.f2.size ≤ 200) := by
  unfold malthouseref11_Light.f
  by_cases h : (l.length : Int) > 100
  · simp only [if_pos h]; exact ⟨false, Tot.const _, fun h => by cases h⟩
  · simp only [if_neg h]
    obtain ⟨b, hb, hk⟩ := Light11_l0 l (by omega) hI l.length 0 (by omega)
    exact ⟨b, hb, fun e => ⟨by omega, by simpa using hk e⟩⟩
theorem cells11_tot (l : List S69) : ∃ b, Tot (fun k => malthouselaw11_cells.f k l) b ∧ (b = true → l.length ≤ 100) := by
  unfold malthouselaw11_cells.f
  by_cases h : (l.length : Int) > 100
  · simp only [if_pos h]; exact ⟨false, Tot.const _, fun h => by cases h⟩
  · simp only [if_neg h]
    have L : ∀ (m i : Nat), i + m = l.length → ∃ b, Tot (fun k => malthouselaw11_cells.l0 k l (i : Int)) b := by
      intro m
      induction m with
      | zero => intro i e; exact ⟨true, Tot.succ (by simp only [malthouselaw11_cells.l0, if_neg (show ¬ (i : Int) < (l.length : Int) by omega)]; exact Tot.const _)⟩
      | succ m ih =>
        intro i e
        by_cases hn : ((rd_T69 l (i : Int)).f0.size : Int) > 200
        · exact ⟨false, Tot.succ (by simp only [malthouselaw11_cells.l0, if_pos (show (i : Int) < (l.length : Int) by omega), if_pos (show 0 ≤ (i : Int) by omega), if_pos hn]; exact Tot.const _)⟩
        · obtain ⟨b, hb⟩ := ih (i + 1) (by omega)
          exact ⟨b, Tot.succ (by simp only [malthouselaw11_cells.l0, if_pos (show (i : Int) < (l.length : Int) by omega), if_pos (show 0 ≤ (i : Int) by omega), if_neg hn, w1 (show 0 ≤ (i : Int) by omega) (show (i : Int) < 9223372036854775807 by omega)]; exact hb)⟩
    obtain ⟨b, hb⟩ := L l.length 0 (by omega)
    exact ⟨b, hb, fun _ => by omega⟩
theorem scan_facts {l : List S67} {pc left : Int} {en : List S69} (hR : RightP l pc left) (hl : l.length ≤ 100) (hL : left ≤ 9223372036854775807) :
    ((scanP l pc left en).2.2.2.2 = 0 → RightP l (scanP l pc left en).1 (scanP l pc left en).2.1 ∧ (scanP l pc left en).2.2.2.1 = ((scanP l pc left en).1 == (l.length : Int)) ∧ (scanP l pc left en).2.2.1.length ≤ 1) ∧
    ((scanP l pc left en).2.2.2.2 ≠ 0 → (scanP l pc left en).1 = pc ∧ (scanP l pc left en).2.1 = left ∧ (scanP l pc left en).2.2.1 = [] ∧ (scanP l pc left en).2.2.2.1 = false ∧ pc ≠ l.length) ∧
    (pc = l.length → scanP l pc left en = (pc, left, [], true, 0)) := by
  obtain ⟨r0, r1, r2, r3⟩ := hR
  unfold scanP
  by_cases hp : pc = (l.length : Int)
  · simp only [if_pos hp]
    exact ⟨fun _ => ⟨⟨r0, r1, r2, r3⟩, by first | exact (beq_iff_eq.mpr hp).symm | simp [hp], by simp⟩, fun h => absurd rfl h, fun _ => by first | rfl | trivial⟩
  simp only [if_neg hp]
  have hlt : pc < (l.length : Int) := by omega
  have w : wrap64 (pc + 1) = pc + 1 := by unfold wrap64; omega
  obtain ⟨s, hs⟩ : ∃ s, rd_T67 l pc = s := ⟨_, rfl⟩
  rw [hs] at r3 ⊢
  generalize numP en s left = n
  by_cases hz : n.2 = 0
  · simp only [if_pos hz]
    have N : RightP l (pc + 1) 0 := ⟨by omega, by omega, by omega, .inl rfl⟩
    have G : (goP s pc left n.1 l.length).2.2 = 0 → RightP l (goP s pc left n.1 l.length).1.1 (goP s pc left n.1 l.length).1.2 ∧ (goP s pc left n.1 l.length).2.1.length ≤ 1 := by
      intro h
      unfold goP at h ⊢
      rw [w] at h ⊢
      by_cases hw : s.f0 = 0 ∨ s.f0 = 3 ∨ s.f0 = 4 ∨ s.f0 = 5
      · simp only [if_pos hw]; exact ⟨N, by simp⟩
      by_cases h7 : s.f0 = 7
      · simp only [if_neg hw, if_pos h7]; exact ⟨N, by simp⟩
      by_cases h1 : s.f0 = 1
      · by_cases hn : n.1 = 0
        · simp only [if_neg hw, if_neg h7, if_pos h1, if_pos hn]; exact ⟨⟨r0, r1, r2, by rcases r3 with h | h; exact .inl h; exact .inr ⟨hlt, by rw [hs]; exact h.2⟩⟩, by simp⟩
        · simp only [if_neg hw, if_neg h7, if_pos h1, if_neg hn]; exact ⟨N, by simp⟩
      by_cases h2 : s.f0 = 2
      · by_cases g1 : left > 1
        · simp only [if_neg hw, if_neg h7, if_neg h1, if_pos h2, if_pos g1]
          have w2 : wrap64 (left - 1) = left - 1 ∨ True := .inr trivial
          exact ⟨⟨r0, r1, by unfold wrap64; omega, .inr ⟨hlt, by rw [hs]; exact h2⟩⟩, by simp⟩
        · by_cases g2 : left = 0
          · by_cases g3 : n.1 > 0
            · simp only [if_neg hw, if_neg h7, if_neg h1, if_pos h2, if_neg g1, if_pos g2, if_pos g3]; exact ⟨⟨r0, r1, by omega, .inr ⟨hlt, by rw [hs]; exact h2⟩⟩, by simp⟩
            · simp only [if_neg hw, if_neg h7, if_neg h1, if_pos h2, if_neg g1, if_pos g2, if_neg g3]; exact ⟨N, by simp⟩
          · simp only [if_neg hw, if_neg h7, if_neg h1, if_pos h2, if_neg g1, if_neg g2]; exact ⟨N, by simp⟩
      by_cases h6 : s.f0 = 6
      · simp only [if_neg hw, if_neg h7, if_neg h1, if_neg h2, if_pos h6] at h ⊢
        by_cases g1 : s.f4 < 0
        · rw [if_pos g1] at h; exact absurd (show (1 : Int) = 0 from h) (by decide)
        · by_cases g2 : s.f4 > (l.length : Int)
          · rw [if_neg g1, if_pos g2] at h; exact absurd (show (1 : Int) = 0 from h) (by decide)
          · rw [if_neg g1, if_neg g2]; show RightP l s.f4 0 ∧ _; exact ⟨⟨by omega, by omega, by omega, .inl rfl⟩, by simp⟩
      · simp only [if_neg hw, if_neg h7, if_neg h1, if_neg h2, if_neg h6]; exact ⟨N, by simp⟩
    by_cases hg : (goP s pc left n.1 l.length).2.2 = 0
    · simp only [if_pos hg]
      obtain ⟨g1, g2⟩ := G hg
      exact ⟨fun _ => ⟨g1, by first | rfl | trivial, g2⟩, fun h => absurd rfl h, fun h => absurd h hp⟩
    · simp only [if_neg hg]
      exact ⟨fun h => absurd h (by decide), fun _ => ⟨by first | rfl | trivial, by first | rfl | trivial, by first | rfl | trivial, by first | rfl | trivial, hp⟩, fun h => absurd h hp⟩
  · simp only [if_neg hz]
    exact ⟨fun h => absurd h hz, fun _ => ⟨by first | rfl | trivial, by first | rfl | trivial, by first | rfl | trivial, by first | rfl | trivial, hp⟩, fun h => absurd h hp⟩
end Go.Proofs.YtiaccdaeomaogaaDoor.F
namespace Go.Proofs.YtiaccdaeomaogaaDoor.F
open Go.RowKit Go.Proofs.YtiaccdaeomaogaaDoorW.PrintWords Go.Proofs.YtiaccdaeomaogaaDoorW.PrintLast Go.Proofs.YtiaccdaeomaogaaDoorW.PrintMore
attribute [local go_sem] max2_int min2_int max_two min_two max_three min_three max_four min_four   -- for this text's walks alone
set_option linter.unusedVariables false
set_option linter.unusedSimpArgs false
mutual
def malthouseref01_Rune.j2 : Nat → ByteArray → Int → Int → Int → Int → Option (Int × Int)
  | 0, _, _, _, _, _ => none
  | k + 1, x0, x1, x6, x7, x8 => if x7 > (wrap64 ((x0.size : Int) - x1)) then (some (0, 0)) else (malthouseref01_Rune.l0 k x0 x1 x6 x7 x8 1)
def malthouseref01_Rune.l0 : Nat → ByteArray → Int → Int → Int → Int → Int → Option (Int × Int)
  | 0, _, _, _, _, _, _ => none
  | k + 1, x0, x1, x6, x7, x8, x9 => if x9 < x7 then (if 0 ≤ (wrap64 (x1 + x9)) then (if (wrap64 (x1 + x9)) < (x0.size : Int) then (if (wrap64 (bt x0 (wrap64 (x1 + x9)))) < 128 then (some (0, 0)) else (if (wrap64 (bt x0 (wrap64 (x1 + x9)))) ≥ 192 then (some (0, 0)) else (malthouseref01_Rune.l0 k x0 x1 (wrap64 ((wrap64 ((wrap64 (64 * x6)) + (wrap64 (bt x0 (wrap64 (x1 + x9)))))) - 128)) x7 x8 (wrap64 (x9 + 1))))) else (none)) else (none)) else (if x6 < x8 then (some (0, 0)) else (if x6 > 1114111 then (some (0, 0)) else (if x6 ≥ 55296 then (if x6 ≤ 57343 then (some (0, 0)) else (some (x6, x7))) else (some (x6, x7)))))
def malthouseref01_Rune.j0 : Nat → ByteArray → Int → Int → Bool → Option (Int × Int)
  | 0, _, _, _, _ => none
  | k + 1, x0, x1, x6, x19 => if x19 = true then (malthouseref01_Rune.j2 k x0 x1 (wrap64 (x6 - 192)) 2 128) else (if x6 ≥ 224 then (malthouseref01_Rune.j1 k x0 x1 x6 (decide (x6 < 240))) else (malthouseref01_Rune.j1 k x0 x1 x6 false))
def malthouseref01_Rune.j1 : Nat → ByteArray → Int → Int → Bool → Option (Int × Int)
  | 0, _, _, _, _ => none
  | k + 1, x0, x1, x6, x28 => if x28 = true then (malthouseref01_Rune.j2 k x0 x1 (wrap64 (x6 - 224)) 3 2048) else (if x6 ≥ 240 then (if x6 < 248 then (malthouseref01_Rune.j2 k x0 x1 (wrap64 (x6 - 240)) 4 65536) else (some (0, 0))) else (some (0, 0)))
end
def malthouseref01_Rune.f (k : Nat) (a0 : ByteArray) (a1 : Int) : Option (Int × Int) := if 0 ≤ a1 then (if a1 < (a0.size : Int) then (if (wrap64 (bt a0 a1)) < 128 then (some (wrap64 (bt a0 a1), 1)) else (if (wrap64 (bt a0 a1)) ≥ 192 then (malthouseref01_Rune.j0 k a0 a1 (wrap64 (bt a0 a1)) (decide ((wrap64 (bt a0 a1)) < 224))) else (malthouseref01_Rune.j0 k a0 a1 (wrap64 (bt a0 a1)) false))) else (none)) else (none)
set_option maxHeartbeats 8000000 in
set_option maxRecDepth 100000 in
theorem malthouseref01_Rune.calls (k : Nat) (a0 : ByteArray) (a1 : Int) (r1 : Int) (r2 : Int) (w : World) (h : malthouseref01_Rune.f k a0 a1 = some (r1, r2)) :
  Calls Tryd.prog 150 #[.string a0, .int .i64 a1] w fun e w' => e = .returned (.tuple #[.int .i64 r1, .int .i64 r2]) ∧ Drawn0 w w' := by
 have H : (if 0 ≤ a1 then (if a1 < (a0.size : Int) then (if (wrap64 (bt a0 a1)) < 128 then (some (wrap64 (bt a0 a1), 1)) else (if (wrap64 (bt a0 a1)) ≥ 192 then (malthouseref01_Rune.j0 k a0 a1 (wrap64 (bt a0 a1)) (decide ((wrap64 (bt a0 a1)) < 224))) else (malthouseref01_Rune.j0 k a0 a1 (wrap64 (bt a0 a1)) false))) else (none)) else (none)) = some (r1, r2) := h
 clear h
 by_cases c3 : 0 ≤ a1
 ·rw [if_pos c3] at H
  have c3b0 : decide (0 ≤ a1) = true := decide_eq_true c3
  clear c3
  by_cases c4 : a1 < (a0.size : Int)
  ·rw [if_pos c4] at H
   have c4b0 : decide (a1 < (a0.size : Int)) = true := decide_eq_true c4
   clear c4
   have HC6 := Aside0.mk H
   clear H
   have p5 : 0 ≤ (a1 : Int) := qa
   have q5 : a1 < (a0.size : Int) := qa
   have hx5 := bt_at a0 a1
   replace p5 := eq_true p5
   replace q5 := eq_true q5
   go_enter Tryd.func150, Tryd.ntmps150
   go_upto_block 0 with (fail)
   go_cut [6, 7, 8] (fun v6 v7 v8 wc => ∃ (kq : Nat) (x6_5 : Int) (x7_5 : Int) (x8_5 : Int), v6 = .int .i64 x6_5 ∧ v7 = .int .i64 x7_5 ∧ v8 = .int .i64 x8_5 ∧ Aside0 (malthouseref01_Rune.j2 kq a0 a1 x6_5 x7_5 x8_5 = some (r1, r2)) ∧ Aside0 (kq ≤ k) ∧ Drawn0 w wc)
   case first =>
    have H := HC6.out
    clear HC6
    by_cases c7 : (wrap64 (bt a0 a1)) < 128
    ·rw [if_pos c7] at H
     have c7b0 : decide ((wrap64 (bt a0 a1)) < 128) = true := decide_eq_true c7
     clear c7
     (first | rw [c7b0] | (simp only [i64_w, i32_w]; rw [c7b0]) | skip)
     simp only [Option.some.injEq, Prod.mk.injEq] at H
     obtain ⟨rfl, rfl⟩ := H
     go_wp2
     go_ret2
     exact ⟨by first | rfl | (simp; done) | (simp [*]; done), by repeat (first | exact Drawn0.refl _ | apply Drawn0.step)⟩
    rw [if_neg c7] at H
    have c7b0 : decide ((wrap64 (bt a0 a1)) < 128) = false := decide_eq_false c7
    clear c7
    (first | rw [c7b0] | (simp only [i64_w, i32_w]; rw [c7b0]) | skip)
    have HC8 := Aside0.mk H
    clear H
    go_upto_region 7 with (fail)
    go_cut [19] (fun v19 wc => ∃ (kq : Nat) (x19_7 : Bool), v19 = .bool x19_7 ∧ Aside0 (malthouseref01_Rune.j0 kq a0 a1 (wrap64 (bt a0 a1)) x19_7 = some (r1, r2)) ∧ Aside0 (kq ≤ k) ∧ Drawn0 w wc)
    case first =>
     have H := HC8.out
     clear HC8
     by_cases c9 : (wrap64 (bt a0 a1)) ≥ 192
     ·rw [if_pos c9] at H
      have c9b0 : decide (192 ≤ (wrap64 (bt a0 a1))) = true := decide_eq_true c9
      clear c9
      (first | rw [c9b0] | (simp only [i64_w, i32_w]; rw [c9b0]) | skip)
      have H' := Aside0.mk H
      clear H
      go_wp2
      go_meet
      case rel => exact ⟨_, (decide ((wrap64 (bt a0 a1)) < 224)), qv, H', ql, by repeat (first | exact Drawn0.refl _ | apply Drawn0.step)⟩
     rw [if_neg c9] at H
     have c9b0 : decide (192 ≤ (wrap64 (bt a0 a1))) = false := decide_eq_false c9
     clear c9
     (first | rw [c9b0] | (simp only [i64_w, i32_w]; rw [c9b0]) | skip)
     have H' := Aside0.mk H
     clear H
     go_wp2
     go_meet
     case rel => exact ⟨_, (false), qv, H', ql, by repeat (first | exact Drawn0.refl _ | apply Drawn0.step)⟩
    clear HC8
    obtain ⟨kq, x19_7, rfl, HA, HJ7, ⟨mc7, rfl⟩⟩ := hcut
    cases kq with
    | zero => exact absurd HA.out (by simp [malthouseref01_Rune.j0])
    | succ kj7 =>
     have H := HA.out
     clear HA
     simp only [malthouseref01_Rune.j0] at H
     by_cases c10 : x19_7 = true
     ·subst c10
      rw [if_pos rfl] at H
      have H' := Aside0.mk H
      clear H
      go_wp2
      go_meet
      case rel => exact ⟨_, (wrap64 ((wrap64 (bt a0 a1)) - 192)), (2), (128), qv, qv, qv, H', ⟨by have := HJ7.out; first | omega | exact Nat.le_refl _⟩, by repeat (first | exact Drawn0.refl _ | apply Drawn0.step)⟩
     replace c10 := Bool.eq_false_iff.mpr c10
     subst c10
     rw [if_neg qf] at H
     have HC11 := Aside0.mk H
     clear H
     go_upto_region 11 with (fail)
     go_cut [28] (fun v28 wc => ∃ (kq : Nat) (x28_10 : Bool), v28 = .bool x28_10 ∧ Aside0 (malthouseref01_Rune.j1 kq a0 a1 (wrap64 (bt a0 a1)) x28_10 = some (r1, r2)) ∧ Aside0 (kq ≤ kj7) ∧ Drawn0 w wc)
     case first =>
      have H := HC11.out
      clear HC11
      by_cases c12 : (wrap64 (bt a0 a1)) ≥ 224
      ·rw [if_pos c12] at H
       have c12b0 : decide (224 ≤ (wrap64 (bt a0 a1))) = true := decide_eq_true c12
       clear c12
       (first | rw [c12b0] | (simp only [i64_w, i32_w]; rw [c12b0]) | skip)
       have H' := Aside0.mk H
       clear H
       go_wp2
       go_meet
       case rel => exact ⟨_, (decide ((wrap64 (bt a0 a1)) < 240)), qv, H', ⟨by have := HJ7.out; first | omega | exact Nat.le_refl _⟩, by repeat (first | exact Drawn0.refl _ | apply Drawn0.step)⟩
      rw [if_neg c12] at H
      have c12b0 : decide (224 ≤ (wrap64 (bt a0 a1))) = false := decide_eq_false c12
      clear c12
      (first | rw [c12b0] | (simp only [i64_w, i32_w]; rw [c12b0]) | skip)
      have H' := Aside0.mk H
      clear H
      go_wp2
      go_meet
      case rel => exact ⟨_, (false), qv, H', ⟨by have := HJ7.out; first | omega | exact Nat.le_refl _⟩, by repeat (first | exact Drawn0.refl _ | apply Drawn0.step)⟩
     clear HC11
     obtain ⟨kq, x28_10, rfl, HA, HJ10, ⟨mc10, rfl⟩⟩ := hcut
     cases kq with
     | zero => exact absurd HA.out (by simp [malthouseref01_Rune.j1])
     | succ kj10 =>
      have H := HA.out
      clear HA
      simp only [malthouseref01_Rune.j1] at H
      by_cases c13 : x28_10 = true
      ·subst c13
       rw [if_pos rfl] at H
       have H' := Aside0.mk H
       clear H
       go_wp2
       go_meet
       case rel => exact ⟨_, (wrap64 ((wrap64 (bt a0 a1)) - 224)), (3), (2048), qv, qv, qv, H', ⟨by have := HJ7.out; have := HJ10.out; first | omega | exact Nat.le_refl _⟩, by repeat (first | exact Drawn0.refl _ | apply Drawn0.step)⟩
      replace c13 := Bool.eq_false_iff.mpr c13
      subst c13
      rw [if_neg qf] at H
      by_cases c14 : (wrap64 (bt a0 a1)) ≥ 240
      ·rw [if_pos c14] at H
       have c14b0 : decide (240 ≤ (wrap64 (bt a0 a1))) = true := decide_eq_true c14
       clear c14
       by_cases c15 : (wrap64 (bt a0 a1)) < 248
       ·rw [if_pos c15] at H
        have c15b0 : decide ((wrap64 (bt a0 a1)) < 248) = true := decide_eq_true c15
        clear c15
        have H' := Aside0.mk H
        clear H
        go_wp2
        go_meet
        case rel => exact ⟨_, (wrap64 ((wrap64 (bt a0 a1)) - 240)), (4), (65536), qv, qv, qv, H', ⟨by have := HJ7.out; have := HJ10.out; first | omega | exact Nat.le_refl _⟩, by repeat (first | exact Drawn0.refl _ | apply Drawn0.step)⟩
       rw [if_neg c15] at H
       have c15b0 : decide ((wrap64 (bt a0 a1)) < 248) = false := decide_eq_false c15
       clear c15
       simp only [Option.some.injEq, Prod.mk.injEq] at H
       obtain ⟨rfl, rfl⟩ := H
       go_wp2
       go_ret2
       exact ⟨by first | rfl | (simp; done) | (simp [*]; done), by repeat (first | exact Drawn0.refl _ | apply Drawn0.step)⟩
      rw [if_neg c14] at H
      have c14b0 : decide (240 ≤ (wrap64 (bt a0 a1))) = false := decide_eq_false c14
      clear c14
      simp only [Option.some.injEq, Prod.mk.injEq] at H
      obtain ⟨rfl, rfl⟩ := H
      go_wp2
      go_ret2
      exact ⟨by first | rfl | (simp; done) | (simp [*]; done), by repeat (first | exact Drawn0.refl _ | apply Drawn0.step)⟩
   clear HC6
   obtain ⟨kq, x6_5, x7_5, x8_5, rfl, rfl, rfl, HA, HJ5, ⟨mc5, rfl⟩⟩ := hcut
   cases kq with
   | zero => exact absurd HA.out (by simp [malthouseref01_Rune.j2])
   | succ kj5 =>
    have H := HA.out
    clear HA
    simp only [malthouseref01_Rune.j2] at H
    by_cases c16 : x7_5 > (wrap64 ((a0.size : Int) - a1))
    ·rw [if_pos c16] at H
     have c16b0 : decide ((wrap64 ((a0.size : Int) - a1)) < x7_5) = true := decide_eq_true c16
     clear c16
     simp only [Option.some.injEq, Prod.mk.injEq] at H
     obtain ⟨rfl, rfl⟩ := H
     go_wp2
     go_ret2
     exact ⟨by first | rfl | (simp; done) | (simp [*]; done), by repeat (first | exact Drawn0.refl _ | apply Drawn0.step)⟩
    rw [if_neg c16] at H
    have c16b0 : decide ((wrap64 ((a0.size : Int) - a1)) < x7_5) = false := decide_eq_false c16
    clear c16
    have H' := Aside0.mk H
    clear H
    go_wp2
    go_loopg [6, 9] kj5 (fun kq v6 v9 w' => ∃ (x6_2 : Int) (x9_2 : Int), v6 = .int .i64 x6_2 ∧ v9 = .int .i64 x9_2 ∧ Aside0 (malthouseref01_Rune.l0 kq a0 a1 x6_2 x7_5 x8_5 x9_2 = some (r1, r2)) ∧ Aside0 (kq ≤ kj5) ∧ Drawn0 w w')
    case atStart => exact ⟨(x6_5), (1), qv, qv, H', ⟨Nat.le_refl _⟩, by repeat (first | exact Drawn0.refl _ | apply Drawn0.step)⟩
    case round =>
     clear H'
     obtain ⟨x6_2, x9_2, rfl, rfl, HA, HK2, ⟨m2, rfl⟩⟩ := hrel
     cases gk with
     | zero => exact absurd HA.out (by simp [malthouseref01_Rune.l0])
     | succ k2 =>
      have H := HA.out
      clear HA
      simp only [malthouseref01_Rune.l0] at H
      by_cases c17 : x9_2 < x7_5
      ·rw [if_pos c17] at H
       have c17b0 : decide (x9_2 < x7_5) = true := decide_eq_true c17
       clear c17
       obtain ⟨ji18, hji18⟩ : ∃ j_ : Int, (wrap64 (a1 + x9_2)) = j_ := ⟨_, rfl⟩
       replace H : (if 0 ≤ (ji18) then (if (ji18) < (a0.size : Int) then (if (wrap64 (bt a0 (ji18))) < 128 then (some (0, 0)) else (if (wrap64 (bt a0 (ji18))) ≥ 192 then (some (0, 0)) else (malthouseref01_Rune.l0 k2 a0 a1 (wrap64 ((wrap64 ((wrap64 (64 * x6_2)) + (wrap64 (bt a0 (ji18))))) - 128)) x7_5 x8_5 (wrap64 (x9_2 + 1))))) else (none)) else (none)) = some (r1, r2) := by first | (rw [hji18] at H; exact H) | (simp only [hji18] at H ⊢; exact H)
       have hji18w : (IntKind.i64.wrap (a1 + x9_2)) = ji18 := (i64_w _).trans hji18
       by_cases c19 : 0 ≤ (ji18)
       ·rw [if_pos c19] at H
        have c19b0 : decide (0 ≤ (ji18)) = true := decide_eq_true c19
        clear c19
        by_cases c20 : (ji18) < (a0.size : Int)
        ·rw [if_pos c20] at H
         have c20b0 : decide ((ji18) < (a0.size : Int)) = true := decide_eq_true c20
         clear c20
         by_cases c22 : (wrap64 (bt a0 (ji18))) < 128
         ·rw [if_pos c22] at H
          have c22b0 : decide ((wrap64 (bt a0 (ji18))) < 128) = true := decide_eq_true c22
          clear c22
          simp only [Option.some.injEq, Prod.mk.injEq] at H
          obtain ⟨rfl, rfl⟩ := H
          have p21 : 0 ≤ ((ji18) : Int) := qa
          have q21 : (ji18) < (a0.size : Int) := qa
          have hx21 := bt_at a0 (ji18)
          replace p21 := eq_true p21
          replace q21 := eq_true q21
          go_wp2
          go_ret2
          exact ⟨by first | rfl | (simp; done) | (simp only [← hji18] <;> (first | rfl | simp)) | (simp [*]; done), by repeat (first | exact Drawn0.refl _ | apply Drawn0.step)⟩
         rw [if_neg c22] at H
         have c22b0 : decide ((wrap64 (bt a0 (ji18))) < 128) = false := decide_eq_false c22
         clear c22
         by_cases c23 : (wrap64 (bt a0 (ji18))) ≥ 192
         ·rw [if_pos c23] at H
          have c23b0 : decide (192 ≤ (wrap64 (bt a0 (ji18)))) = true := decide_eq_true c23
          clear c23
          simp only [Option.some.injEq, Prod.mk.injEq] at H
          obtain ⟨rfl, rfl⟩ := H
          have p21 : 0 ≤ ((ji18) : Int) := qa
          have q21 : (ji18) < (a0.size : Int) := qa
          have hx21 := bt_at a0 (ji18)
          replace p21 := eq_true p21
          replace q21 := eq_true q21
          go_wp2
          go_ret2
          exact ⟨by first | rfl | (simp; done) | (simp only [← hji18] <;> (first | rfl | simp)) | (simp [*]; done), by repeat (first | exact Drawn0.refl _ | apply Drawn0.step)⟩
         rw [if_neg c23] at H
         have c23b0 : decide (192 ≤ (wrap64 (bt a0 (ji18)))) = false := decide_eq_false c23
         clear c23
         have H' := Aside0.mk H
         clear H
         have p21 : 0 ≤ ((ji18) : Int) := qa
         have q21 : (ji18) < (a0.size : Int) := qa
         have hx21 := bt_at a0 (ji18)
         replace p21 := eq_true p21
         replace q21 := eq_true q21
         go_wp2
         go_roundg k2
         case measure => have := HJ5.out; have := HK2.out; omega
         case rel => exact ⟨(wrap64 ((wrap64 ((wrap64 (64 * x6_2)) + (wrap64 (bt a0 (ji18))))) - 128)), (wrap64 (x9_2 + 1)), (by first | rfl | (simp; done) | (simp only [← hji18] <;> (first | rfl | simp)) | (simp [*]; done)), qv, H', ⟨by have := HJ5.out; have := HK2.out; omega⟩, by repeat (first | exact Drawn0.refl _ | apply Drawn0.step)⟩
        rw [if_neg c20] at H
        exact absurd H (by simp)
       rw [if_neg c19] at H
       exact absurd H (by simp)
      rw [if_neg c17] at H
      have c17b0 : decide (x9_2 < x7_5) = false := decide_eq_false c17
      clear c17
      by_cases c24 : x6_2 < x8_5
      ·rw [if_pos c24] at H
       have c24b0 : decide (x6_2 < x8_5) = true := decide_eq_true c24
       clear c24
       simp only [Option.some.injEq, Prod.mk.injEq] at H
       obtain ⟨rfl, rfl⟩ := H
       go_wp2
       go_ret2
       exact ⟨by first | rfl | (simp; done) | (simp [*]; done), by repeat (first | exact Drawn0.refl _ | apply Drawn0.step)⟩
      rw [if_neg c24] at H
      have c24b0 : decide (x6_2 < x8_5) = false := decide_eq_false c24
      clear c24
      by_cases c25 : x6_2 > 1114111
      ·rw [if_pos c25] at H
       have c25b0 : decide (1114111 < x6_2) = true := decide_eq_true c25
       clear c25
       simp only [Option.some.injEq, Prod.mk.injEq] at H
       obtain ⟨rfl, rfl⟩ := H
       go_wp2
       go_ret2
       exact ⟨by first | rfl | (simp; done) | (simp [*]; done), by repeat (first | exact Drawn0.refl _ | apply Drawn0.step)⟩
      rw [if_neg c25] at H
      have c25b0 : decide (1114111 < x6_2) = false := decide_eq_false c25
      clear c25
      by_cases c26 : x6_2 ≥ 55296
      ·rw [if_pos c26] at H
       have c26b0 : decide (55296 ≤ x6_2) = true := decide_eq_true c26
       clear c26
       by_cases c27 : x6_2 ≤ 57343
       ·rw [if_pos c27] at H
        have c27b0 : decide (x6_2 ≤ 57343) = true := decide_eq_true c27
        clear c27
        simp only [Option.some.injEq, Prod.mk.injEq] at H
        obtain ⟨rfl, rfl⟩ := H
        go_wp2
        go_ret2
        exact ⟨by first | rfl | (simp; done) | (simp [*]; done), by repeat (first | exact Drawn0.refl _ | apply Drawn0.step)⟩
       rw [if_neg c27] at H
       have c27b0 : decide (x6_2 ≤ 57343) = false := decide_eq_false c27
       clear c27
       simp only [Option.some.injEq, Prod.mk.injEq] at H
       obtain ⟨rfl, rfl⟩ := H
       go_wp2
       go_ret2
       exact ⟨by first | rfl | (simp; done) | (simp [*]; done), by repeat (first | exact Drawn0.refl _ | apply Drawn0.step)⟩
      rw [if_neg c26] at H
      have c26b0 : decide (55296 ≤ x6_2) = false := decide_eq_false c26
      clear c26
      simp only [Option.some.injEq, Prod.mk.injEq] at H
      obtain ⟨rfl, rfl⟩ := H
      go_wp2
      go_ret2
      exact ⟨by first | rfl | (simp; done) | (simp [*]; done), by repeat (first | exact Drawn0.refl _ | apply Drawn0.step)⟩
  rw [if_neg c4] at H
  exact absurd H (by simp)
 rw [if_neg c3] at H
 exact absurd H (by simp)
end Go.Proofs.YtiaccdaeomaogaaDoor.F
