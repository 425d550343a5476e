/- Texts of one claim, slimmed and merged by slim.py. -/
import Derived.SizedLaws
import Derived.Test.YtiaccdaeomaogaaDoorP13
import Derived.Test.YtiaccdaeomaogaaDoorP17
import Derived.Test.YtiaccdaeomaogaaDoorP18
import Derived.Test.YtiaccdaeomaogaaDoorP21
namespace Go.Proofs.YtiaccdaeomaogaaDoor.F
open Go.RowKit Go.Proofs.YtiaccdaeomaogaaDoorW.PrintWords Go.Proofs.YtiaccdaeomaogaaDoorW.PrintLast Go.Proofs.YtiaccdaeomaogaaDoorW.PrintMore
set_option linter.unusedVariables false
set_option linter.unusedSimpArgs false
theorem upTo {α : Type} {f : Nat → Option α} (hm : ∀ k, LeO (f k) (f (k + 1))) {k : Nat} {v : α} (h : f k = some v) : Tot f v := by
  refine ⟨k, fun j hj => ?_⟩
  obtain ⟨n, rfl⟩ : ∃ n, j = k + n := ⟨j - k, by omega⟩
  clear hj
  induction n with
  | zero => exact h
  | succ n ih => exact hm _ _ ih
theorem awake11_tot : Tot (fun k => malthouselaw11_awake.f k) true := upTo (f := fun k => malthouselaw11_awake.f k) malthouselaw11_awake.mono (show malthouselaw11_awake.f 40 = some true by decide +kernel)
theorem rdS_mem {l : List S67} {i : Nat} (h : i < l.length) : rd_T67 l (i : Int) ∈ l := by
  unfold rd_T67; rw [Int.toNat_natCast, List.getD, List.getElem?_eq_getElem h]; exact List.getElem_mem h
theorem dropS {l : List S67} {i : Nat} (h : i < l.length) : l.drop i = rd_T67 l (i : Int) :: l.drop (i + 1) := by
  rw [List.drop_eq_getElem_cons h]
  unfold rd_T67; rw [Int.toNat_natCast, List.getD, List.getElem?_eq_getElem h]; rfl
theorem Light11_l0 (l : List S67) (hl : l.length ≤ 100) (hI : ∀ y ∈ l, OkI y.f3) : ∀ (m i : Nat), i + m = l.length → ∃ b, Tot (fun k => malthouseref11_Light.l0 k l (i : Int)) b ∧ (b = true → ∀ s ∈ l.drop i, OkE s.f3 ∧ s.f1.size ≤ 200 ∧ s.f2.size ≤ 200)
  | 0, i, e => by
    refine ⟨true, Tot.succ ?_, fun _ r hr => by rw [List.drop_eq_nil_of_le (by omega)] at hr; cases hr⟩
    simp only [malthouseref11_Light.l0, if_neg (show ¬ (i : Int) < (l.length : Int) by omega)]
    exact Tot.const _
  | m + 1, i, e => by
    have hi : i < l.length := by omega
    have hR := hI _ (rdS_mem hi)
    obtain ⟨b, hb, hk⟩ := Light11_l0 l hl hI m (i + 1) (by omega)
    rw [dropS hi]
    by_cases h1 : ((rd_T67 l (i : Int)).f1.size : Int) > 200
    · refine ⟨false, Tot.succ ?_, fun h => by cases h⟩
      simp only [malthouseref11_Light.l0, if_pos (show (i : Int) < (l.length : Int) by omega), if_pos (show 0 ≤ (i : Int) by omega), if_pos h1]; exact Tot.const _
    by_cases h2 : ((rd_T67 l (i : Int)).f2.size : Int) > 200
    · refine ⟨false, Tot.succ ?_, fun h => by cases h⟩
      simp only [malthouseref11_Light.l0, if_pos (show (i : Int) < (l.length : Int) by omega), if_pos (show 0 ≤ (i : Int) by omega), if_neg h1, if_pos h2]; exact Tot.const _
    obtain ⟨t, ht, t0, tb, tk⟩ := Weight_tot hR 200 (by omega) (by omega)
    by_cases ht0 : t = 0
    · refine ⟨false, Tot.succ ?_, fun h => by cases h⟩
      simp only [malthouseref11_Light.l0, if_pos (show (i : Int) < (l.length : Int) by omega), if_pos (show 0 ≤ (i : Int) by omega), if_neg h1, if_neg h2]
      exact Tot.bind ht (by simp only [if_pos ht0]; exact Tot.const _)
    · refine ⟨b, Tot.succ ?_, fun h s hs => ?_⟩
      · simp only [malthouseref11_Light.l0, if_pos (show (i : Int) < (l.length : Int) by omega), if_pos (show 0 ≤ (i : Int) by omega), if_neg h1, if_neg h2, w1 (show 0 ≤ (i : Int) by omega) (show (i : Int) < 9223372036854775807 by omega)]
        exact Tot.bind ht (by simp only [if_neg ht0]; exact hb)
      · rcases List.mem_cons.mp hs with rfl | hs
        · exact ⟨tk ht0, by omega, by omega⟩
        · exact hk h s hs
theorem Light11_tot (l : List S67) (hI : ∀ y ∈ l, OkI y.f3) : ∃ b, Tot (fun k => malthouseref11_Light.f k l) b ∧ (b = true → l.length ≤ 100 ∧ ∀ s ∈ l, OkE s.f3 ∧ s.f1.size ≤ 200 ∧ s.f2.size ≤ 200) := by
  unfold malthouseref11_Light.f
  by_cases h : (l.length : Int) > 100
  · simp only [if_pos h]; exact ⟨false, Tot.const _, fun h => by cases h⟩
  · simp only [if_neg h]
    obtain ⟨b, hb, hk⟩ := Light11_l0 l (by omega) hI l.length 0 (by omega)
    exact ⟨b, hb, fun e => ⟨by omega, by simpa using hk e⟩⟩
theorem cells11_tot (l : List S69) : ∃ b, Tot (fun k => malthouselaw11_cells.f k l) b ∧ (b = true → l.length ≤ 100) := by
  unfold malthouselaw11_cells.f
  by_cases h : (l.length : Int) > 100
  · simp only [if_pos h]; exact ⟨false, Tot.const _, fun h => by cases h⟩
  · simp only [if_neg h]
    have L : ∀ (m i : Nat), i + m = l.length → ∃ b, Tot (fun k => malthouselaw11_cells.l0 k l (i : Int)) b := by
      intro m
      induction m with
      | zero => intro i e; exact ⟨true, Tot.succ (by simp only [malthouselaw11_cells.l0, if_neg (show ¬ (i : Int) < (l.length : Int) by omega)]; exact Tot.const _)⟩
      | succ m ih =>
        intro i e
        by_cases hn : ((rd_T69 l (i : Int)).f0.size : Int) > 200
        · exact ⟨false, Tot.succ (by simp only [malthouselaw11_cells.l0, if_pos (show (i : Int) < (l.length : Int) by omega), if_pos (show 0 ≤ (i : Int) by omega), if_pos hn]; exact Tot.const _)⟩
        · obtain ⟨b, hb⟩ := ih (i + 1) (by omega)
          exact ⟨b, Tot.succ (by simp only [malthouselaw11_cells.l0, if_pos (show (i : Int) < (l.length : Int) by omega), if_pos (show 0 ≤ (i : Int) by omega), if_neg hn, w1 (show 0 ≤ (i : Int) by omega) (show (i : Int) < 9223372036854775807 by omega)]; exact hb)⟩
    obtain ⟨b, hb⟩ := L l.length 0 (by omega)
    exact ⟨b, hb, fun _ => by omega⟩
theorem Ends_tot (l : List S67) (hl : l.length ≤ 9223372036854775807) : ∃ b, Tot (fun k => prog_Ends.f k l) b ∧ (b = true → ∀ i : Nat, i < l.length → (rd_T67 l (i : Int)).f0 = 6 → (i : Int) < (rd_T67 l (i : Int)).f4) := by
  have L : ∀ (m i : Nat), i + m = l.length → ∃ b, Tot (fun k => prog_Ends.l0 k l (l.length : Int) (i : Int)) b ∧ (b = true → ∀ j : Nat, i ≤ j → j < l.length → (rd_T67 l (j : Int)).f0 = 6 → (j : Int) < (rd_T67 l (j : Int)).f4) := by
    intro m
    induction m with
    | zero => intro i e; exact ⟨true, Tot.succ (by simp only [prog_Ends.l0, if_neg (show ¬ (i : Int) < (l.length : Int) by omega)]; exact Tot.const _), fun _ j h1 h2 => by omega⟩
    | succ m ih =>
      intro i e
      obtain ⟨b, hb, hk⟩ := ih (i + 1) (by omega)
      have next : Tot (fun k => prog_Ends.l0 k l (l.length : Int) (wrap64 ((i : Int) + 1))) b := by rw [w1 (show 0 ≤ (i : Int) by omega) (show (i : Int) < 9223372036854775807 by omega)]; exact hb
      by_cases h6 : (rd_T67 l (i : Int)).f0 = 6
      · by_cases h4 : (rd_T67 l (i : Int)).f4 ≤ (i : Int)
        · refine ⟨false, Tot.succ ?_, fun h => by cases h⟩
          simp only [prog_Ends.l0, if_pos (show (i : Int) < (l.length : Int) by omega), if_pos (show 0 ≤ (i : Int) by omega), if_pos h6, if_pos h4]; exact Tot.const _
        · refine ⟨b, Tot.succ ?_, fun h j h1 h2 h3 => ?_⟩
          · simp only [prog_Ends.l0, if_pos (show (i : Int) < (l.length : Int) by omega), if_pos (show 0 ≤ (i : Int) by omega), if_pos h6, if_neg h4]; exact next
          · by_cases hji : j = i
            · subst hji; omega
            · exact hk h j (by omega) h2 h3
      · refine ⟨b, Tot.succ ?_, fun h j h1 h2 h3 => ?_⟩
        · simp only [prog_Ends.l0, if_pos (show (i : Int) < (l.length : Int) by omega), if_pos (show 0 ≤ (i : Int) by omega), if_neg h6]; exact next
        · by_cases hji : j = i
          · subst hji; exact absurd h3 h6
          · exact hk h j (by omega) h2 h3
  obtain ⟨b, hb, hk⟩ := L l.length 0 (by omega)
  exact ⟨b, hb, fun h i h1 h2 => hk h i (by omega) h1 h2⟩
theorem scan_facts {l : List S67} {pc left : Int} {en : List S69} (hR : RightP l pc left) (hl : l.length ≤ 100) (hL : left ≤ 9223372036854775807) :
    ((scanP l pc left en).2.2.2.2 = 0 → RightP l (scanP l pc left en).1 (scanP l pc left en).2.1 ∧ (scanP l pc left en).2.2.2.1 = ((scanP l pc left en).1 == (l.length : Int)) ∧ (scanP l pc left en).2.2.1.length ≤ 1) ∧
    ((scanP l pc left en).2.2.2.2 ≠ 0 → (scanP l pc left en).1 = pc ∧ (scanP l pc left en).2.1 = left ∧ (scanP l pc left en).2.2.1 = [] ∧ (scanP l pc left en).2.2.2.1 = false ∧ pc ≠ l.length) ∧
    (pc = l.length → scanP l pc left en = (pc, left, [], true, 0)) := by
  obtain ⟨r0, r1, r2, r3⟩ := hR
  unfold scanP
  by_cases hp : pc = (l.length : Int)
  · simp only [if_pos hp]
    exact ⟨fun _ => ⟨⟨r0, r1, r2, r3⟩, by first | exact (beq_iff_eq.mpr hp).symm | simp [hp], by simp⟩, fun h => absurd rfl h, fun _ => by first | rfl | trivial⟩
  simp only [if_neg hp]
  have hlt : pc < (l.length : Int) := by omega
  have w : wrap64 (pc + 1) = pc + 1 := by unfold wrap64; omega
  obtain ⟨s, hs⟩ : ∃ s, rd_T67 l pc = s := ⟨_, rfl⟩
  rw [hs] at r3 ⊢
  generalize numP en s left = n
  by_cases hz : n.2 = 0
  · simp only [if_pos hz]
    have N : RightP l (pc + 1) 0 := ⟨by omega, by omega, by omega, .inl rfl⟩
    have G : (goP s pc left n.1 l.length).2.2 = 0 → RightP l (goP s pc left n.1 l.length).1.1 (goP s pc left n.1 l.length).1.2 ∧ (goP s pc left n.1 l.length).2.1.length ≤ 1 := by
      intro h
      unfold goP at h ⊢
      rw [w] at h ⊢
      by_cases hw : s.f0 = 0 ∨ s.f0 = 3 ∨ s.f0 = 4 ∨ s.f0 = 5
      · simp only [if_pos hw]; exact ⟨N, by simp⟩
      by_cases h7 : s.f0 = 7
      · simp only [if_neg hw, if_pos h7]; exact ⟨N, by simp⟩
      by_cases h1 : s.f0 = 1
      · by_cases hn : n.1 = 0
        · simp only [if_neg hw, if_neg h7, if_pos h1, if_pos hn]; exact ⟨⟨r0, r1, r2, by rcases r3 with h | h; exact .inl h; exact .inr ⟨hlt, by rw [hs]; exact h.2⟩⟩, by simp⟩
        · simp only [if_neg hw, if_neg h7, if_pos h1, if_neg hn]; exact ⟨N, by simp⟩
      by_cases h2 : s.f0 = 2
      · by_cases g1 : left > 1
        · simp only [if_neg hw, if_neg h7, if_neg h1, if_pos h2, if_pos g1]
          have w2 : wrap64 (left - 1) = left - 1 ∨ True := .inr trivial
          exact ⟨⟨r0, r1, by unfold wrap64; omega, .inr ⟨hlt, by rw [hs]; exact h2⟩⟩, by simp⟩
        · by_cases g2 : left = 0
          · by_cases g3 : n.1 > 0
            · simp only [if_neg hw, if_neg h7, if_neg h1, if_pos h2, if_neg g1, if_pos g2, if_pos g3]; exact ⟨⟨r0, r1, by omega, .inr ⟨hlt, by rw [hs]; exact h2⟩⟩, by simp⟩
            · simp only [if_neg hw, if_neg h7, if_neg h1, if_pos h2, if_neg g1, if_pos g2, if_neg g3]; exact ⟨N, by simp⟩
          · simp only [if_neg hw, if_neg h7, if_neg h1, if_pos h2, if_neg g1, if_neg g2]; exact ⟨N, by simp⟩
      by_cases h6 : s.f0 = 6
      · simp only [if_neg hw, if_neg h7, if_neg h1, if_neg h2, if_pos h6] at h ⊢
        by_cases g1 : s.f4 < 0
        · rw [if_pos g1] at h; exact absurd (show (1 : Int) = 0 from h) (by decide)
        · by_cases g2 : s.f4 > (l.length : Int)
          · rw [if_neg g1, if_pos g2] at h; exact absurd (show (1 : Int) = 0 from h) (by decide)
          · rw [if_neg g1, if_neg g2]; show RightP l s.f4 0 ∧ _; exact ⟨⟨by omega, by omega, by omega, .inl rfl⟩, by simp⟩
      · simp only [if_neg hw, if_neg h7, if_neg h1, if_neg h2, if_neg h6]; exact ⟨N, by simp⟩
    by_cases hg : (goP s pc left n.1 l.length).2.2 = 0
    · simp only [if_pos hg]
      obtain ⟨g1, g2⟩ := G hg
      exact ⟨fun _ => ⟨g1, by first | rfl | trivial, g2⟩, fun h => absurd rfl h, fun h => absurd h hp⟩
    · simp only [if_neg hg]
      exact ⟨fun h => absurd h (by decide), fun _ => ⟨by first | rfl | trivial, by first | rfl | trivial, by first | rfl | trivial, by first | rfl | trivial, hp⟩, fun h => absurd h hp⟩
  · simp only [if_neg hz]
    exact ⟨fun h => absurd h hz, fun _ => ⟨by first | rfl | trivial, by first | rfl | trivial, by first | rfl | trivial, by first | rfl | trivial, hp⟩, fun h => absurd h hp⟩
theorem scan_left {l : List S67} {pc left : Int} {en : List S69} (hL : I64 left) (he : OkC en) (hE : ∀ s ∈ l, OkE s.f3) (hR : RightP l pc left) : I64 (scanP l pc left en).2.1 := by
  unfold scanP
  by_cases hp : pc = (l.length : Int)
  · simp only [if_pos hp]; exact hL
  simp only [if_neg hp]
  have hn : I64 (numP en (rd_T67 l pc) left).1 := by
    obtain ⟨i, rfl⟩ : ∃ i : Nat, pc = (i : Int) := ⟨pc.toNat, by have := hR.1; omega⟩
    unfold numP; split
    · exact (evV_tot (hE _ (rdS_mem (by have := hR.2.1; omega))) he).2
    · decide
  generalize rd_T67 l pc = s at *
  generalize numP en s left = n at *
  by_cases hz : n.2 = 0
  · simp only [if_pos hz]
    by_cases hg : (goP s pc left n.1 l.length).2.2 = 0
    · simp only [if_pos hg]
      unfold goP
      repeat' split
      all_goals first | exact hL | exact hn | exact I64.w _ | exact (show I64 0 by decide)
    · simp only [if_neg hg]; exact hL
  · simp only [if_neg hz]; exact hL
end Go.Proofs.YtiaccdaeomaogaaDoor.F
namespace Go.Proofs.YtiaccdaeomaogaaDoor.F
open Go.RowKit Go.Proofs.YtiaccdaeomaogaaDoorW.PrintWords Go.Proofs.YtiaccdaeomaogaaDoorW.PrintLast Go.Proofs.YtiaccdaeomaogaaDoorW.PrintMore Go.Deep Go.ChangeShapes Go.WideShapes
set_option linter.unusedVariables false
set_option linter.unusedSimpArgs false
section
variable {H : Type} {enc : TypeId × Value → H} {P : Program} {w : World} {base : Nat} {spare : Nat → Bool} {held : Bool}
theorem agg_cells (cs : Array Value) : (Value.cells (.agg cs)).toList = cs.toList := rfl
theorem arr_eq {cs : Array Value} {l : List Value} (h : (Value.cells (.agg cs)).toList = l) : cs = l.toArray := by
  rw [agg_cells] at h; rw [← h]
theorem step_arg {fuel : Nat} {cs : Array Value} {x : DataW H × List MemPlace} (h : DataW.trod enc Tryd.prog w base spare held fuel 67 (Value.cells (.agg cs)).toList = some x) :
    ∃ (y : S67) (A : Option Addr) (c : Nat), cs = #[.int .i64 y.f0, .string y.f1, .string y.f2, .int .i64 y.f3.f0, .int .i64 y.f3.f1, .string y.f3.f2, .slice A y.f3.f3.length c, .int .i64 y.f4] ∧ y.f3.f3.length ≤ c ∧ Kd.C k34 w A y.f3.f3.length y.f3.f3 ∧ OkI y.f3 ∧ I64 y.f4 := by
  obtain ⟨y, hk, ho⟩ := step_item _ _ _ h
  obtain ⟨A, c, e, hl, hc⟩ := k67_open hk
  exact ⟨y, A, c, arr_eq e, hl, hc, ho⟩
end
section
variable {H : Type} {enc : TypeId × Value → H} {P : Program} {w : World} {base : Nat} {spare : Nat → Bool} {held : Bool}
theorem cells_mach : Tryd.prog.cellsOf 57 = 2 := by kernel_rfl
theorem mach_item (fuel : Nat) (cs : List Value) (x : DataW H × List MemPlace) (h : DataW.trod enc Tryd.prog w base spare held fuel 57 cs = some x) : ∃ a b : Int, cs = [.int .i64 a, .int .i64 b] ∧ I64 a ∧ I64 b := by
  obtain ⟨xs, n, hn, _, hl, hx, hf⟩ := DataW.trod_struct Tryd.underlying57 h
  rw [cells_mach] at hl
  have hx4 : xs.length = 2 := hx
  have h0 : DataW.trod enc Tryd.prog w base spare held n 3 ((cs.drop 0).take (Tryd.prog.cellsOf 3)) = xs[0]? := hf 0 _ rfl
  have h1 : DataW.trod enc Tryd.prog w base spare held n 3 ((cs.drop 1).take (Tryd.prog.cellsOf 3)) = xs[1]? := hf 1 _ rfl
  rw [cells_int] at h0
  rw [cells_int] at h1
  rw [List.getElem?_eq_getElem (by omega)] at h0 h1
  obtain ⟨a0, e0, _, w0⟩ := DataW.trod_int Tryd.underlying3 h0
  obtain ⟨a1, e1, _, w1⟩ := DataW.trod_int Tryd.underlying3 h1
  obtain ⟨d0, d1, rfl⟩ := len2 hl
  simp at e0 e1
  rw [e0, e1]
  exact ⟨a0, a1, rfl, wf_I64 w0, wf_I64 w1⟩
theorem mach_arg {fuel : Nat} {cs : Array Value} {x : DataW H × List MemPlace} (h : DataW.trod enc Tryd.prog w base spare held fuel 57 (Value.cells (.agg cs)).toList = some x) :
    ∃ a b : Int, cs = #[.int .i64 a, .int .i64 b] ∧ I64 a ∧ I64 b := by
  obtain ⟨a, b, e, ha, hb⟩ := mach_item _ _ _ h
  exact ⟨a, b, arr_eq e, ha, hb⟩
end
end Go.Proofs.YtiaccdaeomaogaaDoor.F
