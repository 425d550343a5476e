/- Texts of one claim, slimmed and merged by slim.py. -/
import Derived.Deep.Slices
import Derived.Deep.Grids
import Derived.WalkKit
import Derived.ProofKit
import Derived.OpenShut
import Derived.ShutString
import Derived.ChangeOld
import Derived.Below
import Derived.SizedLaws
import Derived.Test.YtiaccdaeomaogaaDoorT4
import Derived.Test.YtiaccdaeomaogaaDoorT12
namespace Go.Proofs.YtiaccdaeomaogaaDoor.F
open Go.RowKit Go.Proofs.YtiaccdaeomaogaaDoorW.PrintWords Go.Proofs.YtiaccdaeomaogaaDoorW.PrintLast Go.Proofs.YtiaccdaeomaogaaDoorW.PrintMore
set_option linter.unusedVariables false
set_option linter.unusedSimpArgs false
theorem I64.zero : I64 0 := by decide
theorem nameTok (x : S34) (h : x.f2.size ≤ 200) (hop : x.f0 = 1) : ∃ t : Int, Tot (fun _ : Nat => ((lex_Name.f x.f2).bind fun t102 => (if t102 = true then (some 1) else (some (-1))) : Option Int)) t ∧ (t = -1 ∨ (1 ≤ t ∧ t ≤ 65 ∧ Nice x t)) := by
  obtain ⟨b, hb⟩ := Name_tot x.f2 (by omega)
  simp only [hb, Option.bind_some]
  cases b with
  | true =>
    refine ⟨1, Tot.const _, .inr ⟨by omega, by omega, fun acc ha => ?_, fun en he => ?_⟩⟩
    · refine ⟨acc ++ [x.f2], Tot.succ ?_, by simp⟩
      simp only [namesF, if_pos hop, if_pos (show acc.length < 8796093022208 by omega)]
      exact Tot.const _
    · have hi := he.rd (idxC x.f2 en)
      by_cases hj : idxC x.f2 en < 0
      · refine ⟨(0, 21), Tot.succ ?_, by decide⟩
        simp only [expr_reckon.f, if_neg (show ¬ x.f0 = 0 by omega), if_pos hop, expr_cell.f, if_pos hj, Option.bind_some, if_neg (show ¬ (false = true) by decide)]
        exact Tot.const _
      · refine ⟨((rd_T69 en (idxC x.f2 en)).f1, 0), Tot.succ ?_, hi⟩
        simp only [expr_reckon.f, if_neg (show ¬ x.f0 = 0 by omega), if_pos hop, expr_cell.f, if_neg hj, Option.bind_some, if_true]
        exact Tot.const _
  | false => exact ⟨-1, Tot.const _, .inl rfl⟩
theorem num_nice (x : S34) (h1 : I64 x.f1) (hk : x.f3 = []) (hop : x.f0 = 0) : Nice x 1 := by
  refine ⟨fun acc ha => ⟨acc, Tot.succ ?_, by omega⟩, fun en he => ⟨(x.f1, 0), Tot.succ ?_, h1⟩⟩
  · simp only [namesF, if_neg (show ¬ x.f0 = 1 by omega), hk]
    exact Tot.succ (by simp only [namesL]; exact Tot.const _)
  · simp only [expr_reckon.f, if_pos hop]; exact Tot.const _
theorem node_nice (x : S34) {t : Int} (h0 : x.f0 ≠ 0) (h1 : x.f0 ≠ 1) (hl : 0 < x.f3.length) (h2 : x.f0 ≠ 2 → x.f0 ≠ 3 → 1 < x.f3.length) (h : NiceL x.f3 t) : Nice x t := by
  refine ⟨fun acc ha => ?_, fun en he => ?_⟩
  · obtain ⟨l, hl, ll⟩ := h.1 acc ha
    exact ⟨l, Tot.succ (by simp only [namesF, if_neg h1]; exact hl), ll⟩
  · obtain ⟨p, hp, ip⟩ := h.2 _ (rd_mem hl) en he
    suffices h : ∃ q, Tot (fun k => expr_reckon.f (k + 1) x.f0 x.f1 x.f2 x.f3 en) q ∧ I64 q.1 by
      obtain ⟨q, hq, iq⟩ := h; exact ⟨q, Tot.succ hq, iq⟩
    simp only [expr_reckon.f, if_neg h0, if_neg h1, if_pos (show (0 : Int) < (x.f3.length : Int) by omega)]
    by_cases hp2 : p.2 = 0
    · by_cases o2 : x.f0 = 2
      · obtain ⟨q, hq, iq⟩ := minus_tot 0 p.1
        exact ⟨(q.1, q.2), Tot.bind hp (by simp only [if_pos hp2, if_pos o2, hq, Option.bind_some]; exact Tot.const _), iq⟩
      by_cases o3 : x.f0 = 3
      · obtain ⟨q, hq, iq⟩ := truth_tot (p.1 == 0)
        exact ⟨(q, 0), Tot.bind hp (by simp only [if_pos hp2, if_neg o2, if_pos o3, hq, Option.bind_some]; exact Tot.const _), iq⟩
      obtain ⟨q, hq, iq⟩ := h.2 _ (rd_mem (h2 o2 o3)) en he
      by_cases hq2 : q.2 = 0
      · obtain ⟨r, hr, ir⟩ := two_tot x.f0 p.1 q.1 ip iq
        refine ⟨(r.1, r.2), Tot.bind hp ?_, ir⟩
        simp only [if_pos hp2, if_neg o2, if_neg o3, if_pos (show (1 : Int) < (x.f3.length : Int) by have := h2 o2 o3; omega)]
        refine Tot.bind hq ?_
        simp only [if_pos hq2]
        exact Tot.bind hr (Tot.const _)
      · refine ⟨(0, q.2), Tot.bind hp ?_, I64.zero⟩
        simp only [if_pos hp2, if_neg o2, if_neg o3, if_pos (show (1 : Int) < (x.f3.length : Int) by have := h2 o2 o3; omega)]
        refine Tot.bind hq ?_
        simp only [if_neg hq2]
        exact Tot.const _
    · exact ⟨(0, p.2), Tot.bind hp (by simp only [if_neg hp2]; exact Tot.const _), I64.zero⟩
theorem tokens_tot {x : S34} (h : OkE x) : ∀ b : Int, 0 ≤ b → b ≤ 64 → ∃ t, Tot (fun k => expr_tokens.f k x.f0 x.f1 x.f2 x.f3 b) t ∧ (t = -1 ∨ (1 ≤ t ∧ t ≤ 65 ∧ Nice x t)) := by
  induction h with
  | mk x h1 h2 h3 h4 ih =>
  intro b hb0 hb
  -- the loop
  have L : ∀ (n i : Nat) (x6 : Int), i + n = x.f3.length → 1 ≤ x6 → x6 ≤ b → ∃ t, Tot (fun k => expr_tokens.l0 k b x6 x.f3 (x.f3.length : Int) (i : Int) x.f0 x.f1 x.f2 x.f3) t ∧ (t = -1 ∨ (x6 ≤ t ∧ t ≤ b ∧ NiceL (x.f3.drop i) (t - x6))) := by
    intro n
    induction n with
    | zero =>
      intro i x6 e g1 g2
      refine ⟨x6, Tot.succ ?_, .inr ⟨by omega, g2, ?_⟩⟩
      · simp only [expr_tokens.l0, if_neg (show ¬ (i : Int) < (x.f3.length : Int) by omega)]; exact Tot.const _
      · rw [List.drop_eq_nil_of_le (by omega)]; exact NiceL.nil (by omega)
    | succ n ihn =>
      intro i x6 e g1 g2
      have hi : i < x.f3.length := by omega
      have hw : wrap64 (b - x6) = b - x6 := by unfold wrap64; omega
      obtain ⟨t, ht, tk⟩ := ih _ (rd_mem hi) (b - x6) (by omega) (by omega)
      obtain ⟨v, hv⟩ := wrapped_tot x i hi
      suffices hs : ∃ t, Tot (fun k => expr_tokens.l0 (k + 1) b x6 x.f3 (x.f3.length : Int) (i : Int) x.f0 x.f1 x.f2 x.f3) t ∧ (t = -1 ∨ (x6 ≤ t ∧ t ≤ b ∧ NiceL (x.f3.drop i) (t - x6))) by
        obtain ⟨t, h1, h2⟩ := hs; exact ⟨t, Tot.succ h1, h2⟩
      simp only [expr_tokens.l0, if_pos (show (i : Int) < (x.f3.length : Int) by omega), if_pos (show 0 ≤ (i : Int) by omega), hw, w1 (show 0 ≤ (i : Int) by omega) (show (i : Int) < 9223372036854775807 by omega)]
      rcases tk with rfl | ⟨t1, t2, tn⟩
      · exact ⟨-1, Tot.bind ht (by simp only [if_pos (show (-1 : Int) < 0 by decide)]; exact Tot.const _), .inl rfl⟩
      · have w2 : wrap64 (x6 + t) = x6 + t := by unfold wrap64; omega
        have w3 : wrap64 (x6 + t + 2) = x6 + t + 2 := by unfold wrap64; omega
        cases v with
        | true =>
          by_cases hc : x6 + t + 2 > b
          · exact ⟨-1, Tot.bind ht (by simp only [if_neg (show ¬ t < 0 by omega)]; exact Tot.bind hv (by simp only [if_true, w2, w3, if_pos hc]; exact Tot.const _)), .inl rfl⟩
          · obtain ⟨u, hu, uk⟩ := ihn (i + 1) (x6 + t + 2) (by omega) (by omega) (by omega)
            refine ⟨u, Tot.bind ht (by simp only [if_neg (show ¬ t < 0 by omega)]; exact Tot.bind hv (by simp only [if_true, w2, w3, if_neg hc]; exact hu)), ?_⟩
            rcases uk with rfl | ⟨u1, u2, un⟩
            · exact .inl rfl
            · exact .inr ⟨by omega, u2, by rw [drop34 hi]; exact NiceL.cons tn un (by omega) (by omega) (by omega)⟩
        | false =>
          by_cases hc : x6 + t > b
          · exact ⟨-1, Tot.bind ht (by simp only [if_neg (show ¬ t < 0 by omega)]; exact Tot.bind hv (by simp only [if_neg (show ¬ (false = true) by decide), w2, if_pos hc]; exact Tot.const _)), .inl rfl⟩
          · obtain ⟨u, hu, uk⟩ := ihn (i + 1) (x6 + t) (by omega) (by omega) (by omega)
            refine ⟨u, Tot.bind ht (by simp only [if_neg (show ¬ t < 0 by omega)]; exact Tot.bind hv (by simp only [if_neg (show ¬ (false = true) by decide), w2, if_neg hc]; exact hu)), ?_⟩
            rcases uk with rfl | ⟨u1, u2, un⟩
            · exact .inl rfl
            · exact .inr ⟨by omega, u2, by rw [drop34 hi]; exact NiceL.cons tn un (by omega) (by omega) (by omega)⟩
  have F1 : Tot (fun k => expr_tokens.j2 k b true x.f0 x.f1 x.f2 x.f3) (-1) := Tot.succ (by simp only [expr_tokens.j2, if_true]; exact Tot.const _)
  by_cases o0 : x.f0 = 0
  · -- a number
    suffices hs : ∃ t, Tot (fun k => expr_tokens.j0 (k + 1) b 2 x.f0 true x.f0 x.f1 x.f2 x.f3) t ∧ (t = -1 ∨ (1 ≤ t ∧ t ≤ 65 ∧ Nice x t)) by
      obtain ⟨t, h1, h2⟩ := hs
      refine ⟨t, Tot.succ ?_, h2⟩
      simp only [expr_tokens.f, if_pos o0, show (x.f0 == 0) = true by simp [o0]]
      exact Tot.succ h1
    simp only [expr_tokens.j0, if_true, if_pos o0, if_neg (show ¬ x.f0 = 1 by omega)]
    by_cases hk : (x.f3.length : Int) > 0
    · simp only [if_pos hk]; exact ⟨-1, Tot.const _, .inl rfl⟩
    · simp only [if_neg hk]
      split
      · exact ⟨-1, Tot.const _, .inl rfl⟩
      · split
        · exact ⟨1, Tot.const _, .inr ⟨by omega, by omega, num_nice x h1 (List.length_eq_zero_iff.mp (by omega)) o0⟩⟩
        · exact ⟨-1, Tot.const _, .inl rfl⟩
  by_cases o1 : x.f0 = 1
  · suffices hs : ∃ t, Tot (fun k => expr_tokens.j0 (k + 1) b 2 x.f0 true x.f0 x.f1 x.f2 x.f3) t ∧ (t = -1 ∨ (1 ≤ t ∧ t ≤ 65 ∧ Nice x t)) by
      obtain ⟨t, h1, h2⟩ := hs
      refine ⟨t, Tot.succ ?_, h2⟩
      simp only [expr_tokens.f, if_neg o0, show (x.f0 == 1) = true by simp [o1]]
      exact Tot.succ h1
    simp only [expr_tokens.j0, if_true, if_neg o0, if_pos o1]
    split
    · exact ⟨-1, Tot.const _, .inl rfl⟩
    · split
      · exact nameTok x h2 o1
      · exact ⟨-1, Tot.const _, .inl rfl⟩
  -- an operator
  have J1 : ∀ x5 : Int, (x5 = 2 ∨ x5 = 1 ∧ (x.f0 = 2 ∨ x.f0 = 3)) → ∃ t, Tot (fun k => expr_tokens.j1 k b x5 x.f0 x.f1 x.f2 x.f3) t ∧ (t = -1 ∨ (1 ≤ t ∧ t ≤ 65 ∧ Nice x t)) := by
    intro x5 h5
    suffices hs : ∃ t, Tot (fun k => expr_tokens.j1 (k + 1) b x5 x.f0 x.f1 x.f2 x.f3) t ∧ (t = -1 ∨ (1 ≤ t ∧ t ≤ 65 ∧ Nice x t)) by
      obtain ⟨t, h1, h2⟩ := hs; exact ⟨t, Tot.succ h1, h2⟩
    simp only [expr_tokens.j1]
    split
    · exact ⟨-1, F1, .inl rfl⟩
    split
    · exact ⟨-1, F1, .inl rfl⟩
    split
    · split
      · split
        · rename_i hx5
          by_cases hb1 : b < 1
          · simp only [hb1, decide_true]; exact ⟨-1, F1, .inl rfl⟩
          · obtain ⟨t, ht, tk⟩ := L x.f3.length 0 1 (by omega) (by omega) (by omega)
            refine ⟨t, Tot.succ (by simp only [expr_tokens.j2, hb1, decide_false, if_neg (show ¬ (false = true) by decide)]; exact ht), ?_⟩
            rcases tk with rfl | ⟨t1, t2, tn⟩
            · exact .inl rfl
            · rw [List.drop_zero] at tn
              refine .inr ⟨by omega, by omega, node_nice x o0 o1 (by omega) (fun g2 g3 => by omega) ⟨fun acc ha => ?_, tn.2⟩⟩
              obtain ⟨l, hl, ll⟩ := tn.1 acc (by omega)
              exact ⟨l, hl, by omega⟩
        · exact ⟨-1, F1, .inl rfl⟩
      · exact ⟨-1, F1, .inl rfl⟩
    · exact ⟨-1, F1, .inl rfl⟩
  suffices hs : ∃ t, Tot (fun k => expr_tokens.j0 (k + 1) b 2 x.f0 false x.f0 x.f1 x.f2 x.f3) t ∧ (t = -1 ∨ (1 ≤ t ∧ t ≤ 65 ∧ Nice x t)) by
    obtain ⟨t, h1, h2⟩ := hs
    refine ⟨t, Tot.succ ?_, h2⟩
    simp only [expr_tokens.f, if_neg o0, show (x.f0 == 1) = false by simp [o1]]
    exact Tot.succ h1
  simp only [expr_tokens.j0, if_neg (show ¬ (false = true) by decide)]
  by_cases o2 : x.f0 = 2
  · simp only [if_pos o2]; exact J1 1 (.inr ⟨rfl, .inl o2⟩)
  by_cases o3 : x.f0 = 3
  · simp only [if_neg o2, if_pos o3]; exact J1 1 (.inr ⟨rfl, .inr o3⟩)
  simp only [if_neg o2, if_neg o3]
  exact J1 2 (.inl rfl)
theorem May_tot {x : S34} (h : OkE x) : ∃ b, Tot (fun k => expr_May.f k x.f0 x.f1 x.f2 x.f3) b ∧ (b = true → Nice x 65) := by
  obtain ⟨t, ht, tk⟩ := tokens_tot h 64 (by omega) (by omega)
  by_cases h0 : t > 0
  · refine ⟨decide (t ≤ 64), Tot.bind ht (by simp only [if_pos h0]; exact Tot.const _), fun _ => ?_⟩
    rcases tk with rfl | ⟨t1, t2, tn⟩
    · omega
    · refine ⟨fun acc ha => ?_, tn.2⟩
      obtain ⟨l, hl, ll⟩ := tn.1 acc (by omega)
      exact ⟨l, hl, by omega⟩
  · exact ⟨false, Tot.bind ht (by simp only [if_neg h0]; exact Tot.const _), fun h => by cases h⟩
theorem Eval_tot {x : S34} (h : OkE x) {en : List S69} (he : OkC en) : ∃ p, Tot (fun k => expr_Eval.f k x.f0 x.f1 x.f2 x.f3 en) p ∧ I64 p.1 := by
  obtain ⟨b, hb, nb⟩ := May_tot h
  cases b with
  | true =>
    obtain ⟨p, hp, ip⟩ := (nb rfl).2 en he
    exact ⟨(p.1, p.2), Tot.bind hb (by simp only [if_true]; exact Tot.bind hp (Tot.const _)), ip⟩
  | false => exact ⟨(0, 1), Tot.bind hb (by simp only [if_neg (show ¬ (false = true) by decide)]; exact Tot.const _), by decide⟩
end Go.Proofs.YtiaccdaeomaogaaDoor.F
namespace Go.Proofs.YtiaccdaeomaogaaDoor.F
open Go.RowKit Go.Proofs.YtiaccdaeomaogaaDoorW.PrintWords Go.Proofs.YtiaccdaeomaogaaDoorW.PrintLast Go.Proofs.YtiaccdaeomaogaaDoorW.PrintMore Go.Deep
set_option linter.unusedVariables false
set_option linter.unusedSimpArgs false
section
variable {H : Type} {enc : TypeId × Value → H} {P : Program} {w : World} {base : Nat} {spare : Nat → Bool} {held : Bool}
theorem slice_cells {α : Type} {d : Kd α} {Ok : α → Prop} (z : α) {t e : TypeId} {fuel : Nat} {cs : List Value} {x : DataW H × List MemPlace} (ht : P.underlying t = some (.slice e)) (hc : P.cellsOf e = d.sz)
    (elem : ∀ n, n < fuel → ∀ cs x, DataW.trod enc P w base spare held n e cs = some x → ∃ y, d.K w y cs ∧ Ok y) (h : DataW.trod enc P w base spare held fuel t cs = some x) :
    ∃ (A : Option Addr) (c : Nat) (l : List α), cs = [.slice A l.length c] ∧ (l.length ≤ c ∧ l.length ≤ maxLen) ∧ d.C w A l.length l ∧ ∀ y ∈ l, Ok y := by
  rcases DataW.trod_slice ht h with ⟨hcs, _⟩ | ⟨ad, len, cap, elems, rest, n, hf, hcs, _, hb, hl, hm, hlen, hel, _⟩
  · exact ⟨none, 0, [], hcs, ⟨Nat.le_refl _, by simp⟩, ⟨rfl, by simp, fun h => absurd h (Nat.lt_irrefl 0)⟩, fun y hy => nomatch hy⟩
  · have hch : ∀ i, i < len → ∃ y : α, (∃ cs', w.cells? base (ad.add (i * d.sz)) d.sz = some cs' ∧ d.K w y cs') ∧ Ok y := by
      intro i hlt
      have h1 := hel i hlt
      rw [List.getElem?_eq_getElem (by omega)] at h1
      obtain ⟨cs', h2, h3⟩ := Option.bind_eq_some_iff.mp h1
      rw [hc] at h2
      obtain ⟨y, h4, h5⟩ := elem n (by omega) _ _ h3
      exact ⟨y, ⟨cs', h2, h4⟩, h5⟩
    haveI : Inhabited α := ⟨z⟩
    obtain ⟨Y, hY⟩ := choose_lt hch
    have hlY : ((List.range len).map Y).length = len := by simp
    refine ⟨some ad, cap, (List.range len).map Y, by rw [hlY]; exact hcs, ⟨by rw [hlY]; exact hl, by rw [hlY]; omega⟩, ⟨rfl, by rw [hlY]; unfold maxLen at hm; omega, fun _ => ⟨ad, rfl, fun j p hp => ?_⟩⟩, fun y hy => ?_⟩
    · rw [List.getElem?_map] at hp
      have hj : j < len := by
        by_cases hj : j < len
        · exact hj
        · rw [List.getElem?_eq_none (by simp; omega)] at hp; simp at hp
      rw [List.getElem?_range hj] at hp
      simp at hp
      subst hp
      obtain ⟨⟨cs', h1, h2⟩, _⟩ := hY j hj
      refine ⟨cs', d.K_len h2, h2, fun i u hu => ?_⟩
      have h3 := (World.cells?_some h1).2.2
      have hi : i < d.sz := by have := (List.getElem?_eq_some_iff.1 hu).1; rw [d.K_len h2] at this; exact this
      have h4 := h3 i hi
      rw [Deep.add_add] at h4
      exact h4.trans hu
    · obtain ⟨i, hi, rfl⟩ := List.mem_map.mp hy
      exact (hY i (List.mem_range.mp hi)).2
theorem wf_I64 {a : Int} (h : (Lit.int .i64 a).wf = true) : I64 a := by
  simp only [Lit.wf, Bool.and_eq_true, decide_eq_true_eq] at h
  have h1 : IntKind.min .i64 = -9223372036854775808 := by decide
  have h2 : IntKind.max .i64 = 9223372036854775807 := by decide
  unfold I64; omega
theorem len2 {α : Type} {l : List α} (h : l.length = 2) : ∃ a b, l = [a, b] := match l, h with | [a, b], _ => ⟨a, b, rfl⟩
theorem len4 {α : Type} {l : List α} (h : l.length = 4) : ∃ a b c d, l = [a, b, c, d] := match l, h with | [a, b, c, d], _ => ⟨a, b, c, d, rfl⟩
theorem len8 {α : Type} {l : List α} (h : l.length = 8) : ∃ a b c d e f g i, l = [a, b, c, d, e, f, g, i] := match l, h with | [a, b, c, d, e, f, g, i], _ => ⟨a, b, c, d, e, f, g, i, rfl⟩
end
section
variable {H : Type} {enc : TypeId × Value → H} {w : World} {base : Nat} {spare : Nat → Bool} {held : Bool}
theorem cells_int : Tryd.prog.cellsOf 3 = 1 := by kernel_rfl
theorem cells_str : Tryd.prog.cellsOf 9 = 1 := by kernel_rfl
theorem cells_sexpr : Tryd.prog.cellsOf 32 = 1 := by kernel_rfl
theorem cells_expr : Tryd.prog.cellsOf 34 = 4 := by kernel_rfl
theorem cells_cell : Tryd.prog.cellsOf 69 = 2 := by kernel_rfl
theorem cells_step : Tryd.prog.cellsOf 67 = 8 := by kernel_rfl
theorem expr_item : ∀ (fuel : Nat) (cs : List Value) (x : DataW H × List MemPlace), DataW.trod enc Tryd.prog w base spare held fuel 34 cs = some x → ∃ y : S34, k34.K w y cs ∧ OkI y := by
  intro fuel
  induction fuel using Nat.strongRecOn with
  | _ fuel ih =>
  intro cs x h
  obtain ⟨xs, n, hn, _, hl, hx, hf⟩ := DataW.trod_struct Tryd.underlying34 h
  rw [cells_expr] at hl
  have hx4 : xs.length = 4 := hx
  have h0 : DataW.trod enc Tryd.prog w base spare held n 3 ((cs.drop 0).take (Tryd.prog.cellsOf 3)) = xs[0]? := hf 0 _ rfl
  have h1 : DataW.trod enc Tryd.prog w base spare held n 3 ((cs.drop 1).take (Tryd.prog.cellsOf 3)) = xs[1]? := hf 1 _ rfl
  have h2 : DataW.trod enc Tryd.prog w base spare held n 9 ((cs.drop 2).take (Tryd.prog.cellsOf 9)) = xs[2]? := hf 2 _ rfl
  have h3 : DataW.trod enc Tryd.prog w base spare held n 32 ((cs.drop 3).take (Tryd.prog.cellsOf 32)) = xs[3]? := hf 3 _ rfl
  rw [cells_int] at h0 h1
  rw [cells_str] at h2
  rw [cells_sexpr] at h3
  rw [List.getElem?_eq_getElem (by omega)] at h0 h1 h2 h3
  obtain ⟨a0, e0, _, w0⟩ := DataW.trod_int Tryd.underlying3 h0
  obtain ⟨a1, e1, _, w1⟩ := DataW.trod_int Tryd.underlying3 h1
  obtain ⟨a2, e2, _, w2⟩ := DataW.trod_string Tryd.underlying9 h2
  obtain ⟨A3, c3, l3, e3, lc, hC, hO⟩ := slice_cells (d := k34) (Ok := OkI) z34 Tryd.underlying32 (by rw [cells_expr]; rfl) (fun m hm => ih m (by omega)) h3
  obtain ⟨d0, d1, d2, d3, rfl⟩ := len4 hl
  simp at e0 e1 e2 e3
  rw [e0, e1, e2, e3]
  exact ⟨⟨a0, a1, a2, l3⟩, k34_mk w ⟨a0, a1, a2, l3⟩ lc.1 hC, OkI.mk _ (wf_I64 w1) hO⟩
theorem cell_item (fuel : Nat) (cs : List Value) (x : DataW H × List MemPlace) (h : DataW.trod enc Tryd.prog w base spare held fuel 69 cs = some x) : ∃ y : S69, k69.K w y cs ∧ I64 y.f1 := by
  obtain ⟨xs, n, hn, _, hl, hx, hf⟩ := DataW.trod_struct Tryd.underlying69 h
  rw [cells_cell] at hl
  have hx4 : xs.length = 2 := hx
  have h0 : DataW.trod enc Tryd.prog w base spare held n 9 ((cs.drop 0).take (Tryd.prog.cellsOf 9)) = xs[0]? := hf 0 _ rfl
  have h1 : DataW.trod enc Tryd.prog w base spare held n 3 ((cs.drop 1).take (Tryd.prog.cellsOf 3)) = xs[1]? := hf 1 _ rfl
  rw [cells_str] at h0
  rw [cells_int] at h1
  rw [List.getElem?_eq_getElem (by omega)] at h0 h1
  obtain ⟨a0, e0, _, w0⟩ := DataW.trod_string Tryd.underlying9 h0
  obtain ⟨a1, e1, _, w1⟩ := DataW.trod_int Tryd.underlying3 h1
  obtain ⟨d0, d1, rfl⟩ := len2 hl
  simp at e0 e1
  rw [e0, e1]
  exact ⟨⟨a0, a1⟩, k69_mk w ⟨a0, a1⟩, wf_I64 w1⟩
theorem step_item (fuel : Nat) (cs : List Value) (x : DataW H × List MemPlace) (h : DataW.trod enc Tryd.prog w base spare held fuel 67 cs = some x) : ∃ y : S67, k67.K w y cs ∧ OkI y.f3 ∧ I64 y.f4 := by
  obtain ⟨xs, n, hn, _, hl, hx, hf⟩ := DataW.trod_struct Tryd.underlying67 h
  rw [cells_step] at hl
  have hx4 : xs.length = 5 := hx
  have h0 : DataW.trod enc Tryd.prog w base spare held n 3 ((cs.drop 0).take (Tryd.prog.cellsOf 3)) = xs[0]? := hf 0 _ rfl
  have h1 : DataW.trod enc Tryd.prog w base spare held n 9 ((cs.drop 1).take (Tryd.prog.cellsOf 9)) = xs[1]? := hf 1 _ rfl
  have h2 : DataW.trod enc Tryd.prog w base spare held n 9 ((cs.drop 2).take (Tryd.prog.cellsOf 9)) = xs[2]? := hf 2 _ rfl
  have h3 : DataW.trod enc Tryd.prog w base spare held n 34 ((cs.drop 3).take (Tryd.prog.cellsOf 34)) = xs[3]? := hf 3 _ rfl
  have h4 : DataW.trod enc Tryd.prog w base spare held n 3 ((cs.drop 7).take (Tryd.prog.cellsOf 3)) = xs[4]? := hf 4 _ rfl
  rw [cells_int] at h0 h4
  rw [cells_str] at h1 h2
  rw [cells_expr] at h3
  rw [List.getElem?_eq_getElem (by omega)] at h0 h1 h2 h3 h4
  obtain ⟨a0, e0, _, w0⟩ := DataW.trod_int Tryd.underlying3 h0
  obtain ⟨a1, e1, _, w1⟩ := DataW.trod_string Tryd.underlying9 h1
  obtain ⟨a2, e2, _, w2⟩ := DataW.trod_string Tryd.underlying9 h2
  obtain ⟨a4, e4, _, w4⟩ := DataW.trod_int Tryd.underlying3 h4
  obtain ⟨y3, q3, o3⟩ := expr_item _ _ _ h3
  obtain ⟨A3, c3, e3, l3, g3⟩ := k34_open q3
  obtain ⟨d0, d1, d2, d3, d4, d5, d6, d7, rfl⟩ := len8 hl
  simp at e0 e1 e2 e3 e4
  obtain ⟨e30, e31, e32, e33⟩ := e3
  rw [e0, e1, e2, e30, e31, e32, e33, e4]
  exact ⟨⟨a0, a1, a2, y3, a4⟩, k67_mk w ⟨a0, a1, a2, y3, a4⟩ l3 g3, o3, wf_I64 w4⟩
theorem slice_val {a : Option Addr} {len cap : Nat} {α : Type} {d : Kd α} {Ok : α → Prop} (h : ∃ (A : Option Addr) (c : Nat) (l : List α), (Value.cells (.slice a len cap)).toList = [.slice A l.length c] ∧ (l.length ≤ c ∧ l.length ≤ maxLen) ∧ d.C w A l.length l ∧ ∀ y ∈ l, Ok y) :
    ∃ l : List α, l.length = len ∧ (l.length ≤ cap ∧ l.length ≤ maxLen) ∧ d.C w a l.length l ∧ ∀ y ∈ l, Ok y := by
  obtain ⟨A, c, l, e, h1, h2, h3⟩ := h
  simp [Value.cells] at e
  obtain ⟨rfl, rfl, rfl⟩ := e
  exact ⟨l, rfl, h1, h2, h3⟩
theorem cells_open {fuel : Nat} {a : Option Addr} {len cap : Nat} {x : DataW H × List MemPlace} (h : DataW.trod enc Tryd.prog w base spare held fuel 35 (Value.cells (.slice a len cap)).toList = some x) :
    ∃ l : List S69, l.length = len ∧ (l.length ≤ cap ∧ l.length ≤ maxLen) ∧ Kd.C k69 w a l.length l ∧ ∀ y ∈ l, I64 y.f1 :=
  slice_val (slice_cells z69 Tryd.underlying35 (by rw [cells_cell]; rfl) (fun m _ => cell_item m) h)
theorem steps_open {fuel : Nat} {a : Option Addr} {len cap : Nat} {x : DataW H × List MemPlace} (h : DataW.trod enc Tryd.prog w base spare held fuel 55 (Value.cells (.slice a len cap)).toList = some x) :
    ∃ l : List S67, l.length = len ∧ (l.length ≤ cap ∧ l.length ≤ maxLen) ∧ Kd.C k67 w a l.length l ∧ ∀ y ∈ l, OkI y.f3 ∧ I64 y.f4 :=
  slice_val (slice_cells z67 Tryd.underlying55 (by rw [cells_step]; rfl) (fun m _ => step_item m) h)
end
end Go.Proofs.YtiaccdaeomaogaaDoor.F
namespace Go.Proofs.YtiaccdaeomaogaaDoor.F
open Go.RowKit Go.Proofs.YtiaccdaeomaogaaDoorW.PrintWords Go.Proofs.YtiaccdaeomaogaaDoorW.PrintLast Go.Proofs.YtiaccdaeomaogaaDoorW.PrintMore
attribute [local go_sem] max2_int min2_int max_two min_two max_three min_three max_four min_four   -- for this text's walks alone
set_option linter.unusedVariables false
set_option linter.unusedSimpArgs false
def prog_Right.f (l0 : List (S67)) (a1_0 : Int) (a1_1 : Int) : Option (Bool) := if a1_0 < 0 then (some false) else (if a1_0 > (l0.length : Int) then (some false) else (if a1_1 < 0 then (some false) else (if a1_1 = 0 then (some true) else (if a1_0 < (l0.length : Int) then (if 0 ≤ a1_0 then (some (((rd_T67 l0 a1_0).f0) == 2)) else (none)) else (some false)))))
set_option maxHeartbeats 8000000 in
set_option maxRecDepth 100000 in
theorem prog_Right.calls (A0 : Option Addr) (c0 : Nat) (l0 : List (S67)) (a1_0 : Int) (a1_1 : Int) (r : Bool) (w : World) (hr0 : Kd.C k67 w A0 l0.length l0) (hc0 : l0.length ≤ c0) (h : prog_Right.f l0 a1_0 a1_1 = some r) :
  Calls Tryd.prog 41 #[.slice A0 l0.length c0, .agg #[.int .i64 a1_0, .int .i64 a1_1]] w fun e w' => e = .returned (.bool r) ∧ Below w.heap.size w w' := by
 have hu57 := Tryd.underlying57
 have HR0 := Aside0.mk hr0
 have HC0 := Aside0.mk hc0
 clear hr0 hc0
 have HB := Aside0.mk (Below.refl w.heap.size w)
 have H : (if a1_0 < 0 then (some false) else (if a1_0 > (l0.length : Int) then (some false) else (if a1_1 < 0 then (some false) else (if a1_1 = 0 then (some true) else (if a1_0 < (l0.length : Int) then (if 0 ≤ a1_0 then (some (((rd_T67 l0 a1_0).f0) == 2)) else (none)) else (some false)))))) = some r := h
 clear h
 by_cases c3 : a1_0 < 0
 ·rw [if_pos c3] at H
  have c3b0 : decide (a1_0 < 0) = true := decide_eq_true c3
  clear c3
  obtain rfl := Option.some.inj H
  go_enter Tryd.func41, Tryd.ntmps41
  go_wp2_with (first | ((with_reducible refine gate_dst (N := 3) rfl ?_); (try (refine gate_guard (by rfl) ?_; dsimp only)); refine box_event ?hg (N := 3) ?hd (cs := #[.int .i64 a1_0, .int .i64 a1_1]) (t := 57) ?hr ?_; (case hd => rfl); (case hg => rfl); (case hr => first | (go_simp; done) | (go_simp; rfl)); intro gb101 hg w4 hbox hb; have n0_ := qs hb; have n1_ := Aside0.mk (hbox); have n2_ := Aside0.mk ((by rw [hg]; exact (below_size qb) : w.heap.size ≤ gb101)); have n3_ := Aside0.mk ((by rw [hg]; exact (below_size qb) : w.heap.size ≤ gb101)); clear HB; have HB := n0_; have BK101 := n1_; have GW101 := n2_; have GE101 := n3_; clear n0_ n1_ n2_ n3_; clear hb hbox hg; obtain ⟨_, _, _, _⟩ := q2 BK101.out))
  go_ret
  exact qr
 rw [if_neg c3] at H
 have c3b0 : decide (a1_0 < 0) = false := decide_eq_false c3
 clear c3
 by_cases c6 : a1_0 > (l0.length : Int)
 ·rw [if_pos c6] at H
  have c6b0 : decide ((l0.length : Int) < a1_0) = true := decide_eq_true c6
  clear c6
  obtain rfl := Option.some.inj H
  go_enter Tryd.func41, Tryd.ntmps41
  go_wp2_with (first | ((with_reducible refine gate_dst (N := 3) rfl ?_); (try (refine gate_guard (by rfl) ?_; dsimp only)); refine box_event ?hg (N := 3) ?hd (cs := #[.int .i64 a1_0, .int .i64 a1_1]) (t := 57) ?hr ?_; (case hd => rfl); (case hg => rfl); (case hr => first | (go_simp; done) | (go_simp; rfl)); intro gb101 hg w7 hbox hb; have n0_ := qs hb; have n1_ := Aside0.mk (hbox); have n2_ := Aside0.mk ((by rw [hg]; exact (below_size qb) : w.heap.size ≤ gb101)); have n3_ := Aside0.mk ((by rw [hg]; exact (below_size qb) : w.heap.size ≤ gb101)); clear HB; have HB := n0_; have BK101 := n1_; have GW101 := n2_; have GE101 := n3_; clear n0_ n1_ n2_ n3_; clear hb hbox hg; obtain ⟨_, _, _, _⟩ := q2 BK101.out))
  go_ret
  exact qr
 rw [if_neg c6] at H
 have c6b0 : decide ((l0.length : Int) < a1_0) = false := decide_eq_false c6
 clear c6
 by_cases c9 : a1_1 < 0
 ·rw [if_pos c9] at H
  have c9b0 : decide (a1_1 < 0) = true := decide_eq_true c9
  clear c9
  obtain rfl := Option.some.inj H
  go_enter Tryd.func41, Tryd.ntmps41
  go_wp2_with (first | ((with_reducible refine gate_dst (N := 3) rfl ?_); (try (refine gate_guard (by rfl) ?_; dsimp only)); refine box_event ?hg (N := 3) ?hd (cs := #[.int .i64 a1_0, .int .i64 a1_1]) (t := 57) ?hr ?_; (case hd => rfl); (case hg => rfl); (case hr => first | (go_simp; done) | (go_simp; rfl)); intro gb101 hg w10 hbox hb; have n0_ := qs hb; have n1_ := Aside0.mk (hbox); have n2_ := Aside0.mk ((by rw [hg]; exact (below_size qb) : w.heap.size ≤ gb101)); have n3_ := Aside0.mk ((by rw [hg]; exact (below_size qb) : w.heap.size ≤ gb101)); clear HB; have HB := n0_; have BK101 := n1_; have GW101 := n2_; have GE101 := n3_; clear n0_ n1_ n2_ n3_; clear hb hbox hg; obtain ⟨_, _, _, _⟩ := q2 BK101.out))
  go_ret
  exact qr
 rw [if_neg c9] at H
 have c9b0 : decide (a1_1 < 0) = false := decide_eq_false c9
 clear c9
 by_cases c12 : a1_1 = 0
 ·rw [if_pos c12] at H
  obtain ⟨c12b0, c12b1⟩ := qe c12
  clear c12
  obtain rfl := Option.some.inj H
  go_enter Tryd.func41, Tryd.ntmps41
  go_wp2_with (first | ((with_reducible refine gate_dst (N := 3) rfl ?_); (try (refine gate_guard (by rfl) ?_; dsimp only)); refine box_event ?hg (N := 3) ?hd (cs := #[.int .i64 a1_0, .int .i64 a1_1]) (t := 57) ?hr ?_; (case hd => rfl); (case hg => rfl); (case hr => first | (go_simp; done) | (go_simp; rfl)); intro gb101 hg w13 hbox hb; have n0_ := qs hb; have n1_ := Aside0.mk (hbox); have n2_ := Aside0.mk ((by rw [hg]; exact (below_size qb) : w.heap.size ≤ gb101)); have n3_ := Aside0.mk ((by rw [hg]; exact (below_size qb) : w.heap.size ≤ gb101)); clear HB; have HB := n0_; have BK101 := n1_; have GW101 := n2_; have GE101 := n3_; clear n0_ n1_ n2_ n3_; clear hb hbox hg; obtain ⟨_, _, _, _⟩ := q2 BK101.out))
  go_ret
  exact qr
 rw [if_neg c12] at H
 obtain ⟨c12b0, c12b1⟩ := qd c12
 by_cases c15 : a1_0 < (l0.length : Int)
 ·rw [if_pos c15] at H
  have c15b0 : decide (a1_0 < (l0.length : Int)) = true := decide_eq_true c15
  clear c15
  by_cases c16 : 0 ≤ a1_0
  ·rw [if_pos c16] at H
   have c16b0 : decide (0 ≤ a1_0) = true := decide_eq_true c16
   clear c16
   obtain rfl := Option.some.inj H
   go_enter Tryd.func41, Tryd.ntmps41
   go_wp2_with (first | ((with_reducible refine gate_dst (N := 3) rfl ?_); (try (refine gate_guard (by rfl) ?_; dsimp only)); refine box_event ?hg (N := 3) ?hd (cs := #[.int .i64 a1_0, .int .i64 a1_1]) (t := 57) ?hr ?_; (case hd => rfl); (case hg => rfl); (case hr => first | (go_simp; done) | (go_simp; rfl)); intro gb101 hg w17 hbox hb; have n0_ := qs hb; have n1_ := Aside0.mk (hbox); have n2_ := Aside0.mk ((by rw [hg]; exact (below_size qb) : w.heap.size ≤ gb101)); have n3_ := Aside0.mk ((by rw [hg]; exact (below_size qb) : w.heap.size ≤ gb101)); clear HB; have HB := n0_; have BK101 := n1_; have GW101 := n2_; have GE101 := n3_; clear n0_ n1_ n2_ n3_; clear hb hbox hg; obtain ⟨_, _, _, _⟩ := q2 BK101.out; have p102 : 0 ≤ (a1_0 : Int) := qa; have q102 : a1_0 < (l0.length : Int) := qa; obtain ⟨ad102, A102_6, c102_6, e102, hx102_0, hx102_1, hx102_2, hx102_3, hx102_4, hx102_5, hx102_6, hx102_7, hl102_6, hi102_6⟩ := at_T67 HR0.out a1_0 p102 q102; cases e102; replace hx102_0 := qc HB.out hx102_0; replace hx102_1 := qc HB.out hx102_1; replace hx102_2 := qc HB.out hx102_2; replace hx102_3 := qc HB.out hx102_3; replace hx102_4 := qc HB.out hx102_4; replace hx102_5 := qc HB.out hx102_5; replace hx102_6 := qc HB.out hx102_6; replace hx102_7 := qc HB.out hx102_7; have HR102_6 := Aside0.mk hi102_6; have HC102_6 := Aside0.mk hl102_6; clear hi102_6 hl102_6; replace p102 := eq_true p102; replace q102 := eq_true q102))
   go_ret
   exact qr
  rw [if_neg c16] at H
  exact absurd H (by simp)
 rw [if_neg c15] at H
 have c15b0 : decide (a1_0 < (l0.length : Int)) = false := decide_eq_false c15
 clear c15
 obtain rfl := Option.some.inj H
 go_enter Tryd.func41, Tryd.ntmps41
 go_wp2_with (first | ((with_reducible refine gate_dst (N := 3) rfl ?_); (try (refine gate_guard (by rfl) ?_; dsimp only)); refine box_event ?hg (N := 3) ?hd (cs := #[.int .i64 a1_0, .int .i64 a1_1]) (t := 57) ?hr ?_; (case hd => rfl); (case hg => rfl); (case hr => first | (go_simp; done) | (go_simp; rfl)); intro gb101 hg w19 hbox hb; have n0_ := qs hb; have n1_ := Aside0.mk (hbox); have n2_ := Aside0.mk ((by rw [hg]; exact (below_size qb) : w.heap.size ≤ gb101)); have n3_ := Aside0.mk ((by rw [hg]; exact (below_size qb) : w.heap.size ≤ gb101)); clear HB; have HB := n0_; have BK101 := n1_; have GW101 := n2_; have GE101 := n3_; clear n0_ n1_ n2_ n3_; clear hb hbox hg; obtain ⟨_, _, _, _⟩ := q2 BK101.out))
 go_ret
 exact qr
def prog_goes_next.f (a0_0 : Int) (a0_1 : Int) : Option (Int × Int) := some (a0_0, a0_1)
set_option maxHeartbeats 8000000 in
set_option maxRecDepth 100000 in
theorem prog_goes_next.calls (a0_0 : Int) (a0_1 : Int) (r1 : Int) (r2 : Int) (w : World) (h : prog_goes_next.f a0_0 a0_1 = some (r1, r2)) :
    Calls Tryd.prog 195 #[.agg #[.int .i64 a0_0, .int .i64 a0_1]] w fun e w' => e = .returned (.agg #[.int .i64 r1, .int .i64 r2]) ∧ Below w.heap.size w w' := by
  have hu114 := Tryd.underlying114
  have hu57 := Tryd.underlying57
  have HB := Aside0.mk (Below.refl w.heap.size w)
  have H : (some (a0_0, a0_1)) = some (r1, r2) := h
  clear h
  simp only [Option.some.injEq, Prod.mk.injEq] at H
  obtain ⟨rfl, rfl⟩ := H
  go_enter Tryd.func195, Tryd.ntmps195
  go_wp2_with (first | ((with_reducible refine gate_dst (N := 1) rfl ?_); refine box_event ?hg (N := 1) ?hd (cs := #[.int .i64 a0_0, .int .i64 a0_1]) (t := 114) ?hr ?_; (case hd => rfl); (case hg => rfl); (case hr => first | (go_simp; done) | (go_simp; rfl)); intro gb101 hg w2 hbox hb; have n0_ := qs hb; have n1_ := Aside0.mk (hbox); have n2_ := Aside0.mk ((by rw [hg]; exact (below_size qb) : w.heap.size ≤ gb101)); have n3_ := Aside0.mk ((by rw [hg]; exact (below_size qb) : w.heap.size ≤ gb101)); clear HB; have HB := n0_; have BK101 := n1_; have GW101 := n2_; have GE101 := n3_; clear n0_ n1_ n2_ n3_; clear hb hbox hg) | ((with_reducible refine gate_dst (N := 2) rfl ?_); refine box_event ?hg (N := 2) ?hd (cs := #[.int .i64 0, .int .i64 0]) (t := 57) ?hr ?_; (case hd => rfl); (case hg => rfl); (case hr => first | (go_simp; done) | (go_simp; rfl)); intro gb102 hg w3 hbox hb; have n0_ := qn101 (g := gb101) hb; have n1_ := qs hb; have n2_ := Aside0.mk (hbox); have n3_ := Aside0.mk ((by rw [hg]; exact (below_size qb) : w.heap.size ≤ gb102)); have n4_ := Aside0.mk ((by rw [hg]; exact (below_size qb) : w.heap.size ≤ gb102)); have n5_ := Aside0.mk ((by rw [hg]; exact Nat.ne_of_lt (blk_lt (g := gb101) (o := .cells #[.int .i64 a0_0, .int .i64 a0_1] 114 (0, 0)) (by (with_reducible repeat (first | refine blk_drewN ?_ _ | refine blk_drew ?_ | refine blk_alloc ?_ _)); exact BK101.out)) : gb101 ≠ gb102)); have n6_ := Aside0.mk ((by rw [hg]; exact Nat.ne_of_gt (blk_lt (g := gb101) (o := .cells #[.int .i64 a0_0, .int .i64 a0_1] 114 (0, 0)) (by (with_reducible repeat (first | refine blk_drewN ?_ _ | refine blk_drew ?_ | refine blk_alloc ?_ _)); exact BK101.out)) : gb102 ≠ gb101)); clear BK101; clear HB; have BK101 := n0_; have HB := n1_; have BK102 := n2_; have GW102 := n3_; have GE102 := n4_; have NB101_102 := n5_; have NB102_101 := n6_; clear n0_ n1_ n2_ n3_ n4_ n5_ n6_; clear hb hbox hg; have hnb4 := NB101_102.out; have hnc4 := NB102_101.out; obtain ⟨_, _, _, _⟩ := q2 BK101.out; obtain ⟨_, _, _, _⟩ := q2 BK102.out))
  refine bodyPost_ret (results_cell_row rfl _ _ gb102 57 #[.int .i64 a0_0, .int .i64 a0_1] (0, 0) _ rfl qy102 Tryd.underlying57 rfl (by kernel_rfl)) rfl ?_
  exact qr
end Go.Proofs.YtiaccdaeomaogaaDoor.F
