/- Texts of one claim, slimmed and merged by slim.py. -/
import Derived.Lib.LazyBuf
import Derived.Test.YtiaccdaeomaogaaDoorR4
import Derived.Test.YtiaccdaeomaogaaDoorR7
import Derived.Test.YtiaccdaeomaogaaDoorR12
namespace Go.Proofs.YtiaccdaeomaogaaDoor.F
open Go.RowKit Go.Proofs.YtiaccdaeomaogaaDoorW.PrintWords Go.Proofs.YtiaccdaeomaogaaDoorW.PrintLast Go.Proofs.YtiaccdaeomaogaaDoorW.PrintMore
attribute [local go_sem] max2_int min2_int max_two min_two max_three min_three max_four min_four   -- for this text's walks alone
set_option linter.unusedVariables false
set_option linter.unusedSimpArgs false
def rung_strange.l0 : Nat → List ByteArray → List ByteArray → Int → Int → Option (Bool)
  | 0, _, _, _, _ => none
  | k + 1, x1, x8, x9, x10 => if x10 < x9 then (if 0 ≤ x10 then (if x10 < (x8.length : Int) then ((slices_Contains_string_string.f k x1 (rdOf ByteArray.empty x8 x10)).bind fun t106 => (if t106 = true then (rung_strange.l0 k x1 x8 x9 (wrap64 (x10 + 1))) else (some true))) else (none)) else (none)) else (some false)
def rung_strange.f (k : Nat) (a0_0 : Int) (a0_1 : Int) (a0_2 : ByteArray) (l0_3 : List (S34)) (l1 : List ByteArray) : Option (Bool) := (expr_Names.f k a0_0 a0_1 a0_2 l0_3).bind fun t102 => (rung_strange.l0 k l1 t102 (t102.length : Int) 0)
theorem rung_strange.mono_l : ∀ k, (∀ y0 y1 y2 y3, LeO (rung_strange.l0 k y0 y1 y2 y3) (rung_strange.l0 (k + 1) y0 y1 y2 y3))
  | 0 => fun _ _ _ _ r h => by simp [rung_strange.l0] at h
  | k + 1 => by
    have ih0 := rung_strange.mono_l k
    intro y0 y1 y2 y3
    unfold rung_strange.l0
    repeat' first
    | (with_reducible exact ih0 _ _ _ _)
    | (with_reducible exact expr_Names.mono _ _ _ _ _)
    | (with_reducible exact slices_Contains_string_string.mono _ _ _)
    | (with_reducible exact LeO.refl _)
    | (with_reducible exact LeO.none _)
    | (with_reducible refine LeO.ite ?_ ?_)
    | (with_reducible refine LeO.bind ?_ (fun _ => ?_))
    | exact ih0 _ _ _ _
    | exact expr_Names.mono _ _ _ _ _
    | exact slices_Contains_string_string.mono _ _ _
    | exact LeO.none _
    | refine LeO.ite ?_ ?_
    | refine LeO.bind ?_ (fun _ => ?_)
theorem rung_strange.mono : ∀ a0 a1 a2 a3 a4 k, LeO (rung_strange.f k a0 a1 a2 a3 a4) (rung_strange.f (k + 1) a0 a1 a2 a3 a4) := by
  intro a0 a1 a2 a3 a4 k
  have ih0 := rung_strange.mono_l k
  unfold rung_strange.f
  repeat' first
      | (with_reducible exact ih0 _ _ _ _)
      | (with_reducible exact expr_Names.mono _ _ _ _ _)
      | (with_reducible exact slices_Contains_string_string.mono _ _ _)
      | (with_reducible exact LeO.refl _)
      | (with_reducible exact LeO.none _)
      | (with_reducible refine LeO.ite ?_ ?_)
      | (with_reducible refine LeO.bind ?_ (fun _ => ?_))
      | exact ih0 _ _ _ _
      | exact expr_Names.mono _ _ _ _ _
      | exact slices_Contains_string_string.mono _ _ _
      | exact LeO.none _
      | refine LeO.ite ?_ ?_
      | refine LeO.bind ?_ (fun _ => ?_)
set_option maxHeartbeats 8000000 in
set_option maxRecDepth 100000 in
theorem rung_strange.calls (k : Nat) (a0_0 : Int) (a0_1 : Int) (a0_2 : ByteArray) (A0_3 : Option Addr) (c0_3 : Nat) (l0_3 : List (S34)) (A1 : Option Addr) (c1 : Nat) (l1 : List ByteArray) (r : Bool) (w : World) (hr0_3 : Kd.C k34 w A0_3 l0_3.length l0_3) (hc0_3 : l0_3.length ≤ c0_3) (hr1 : Kd.C Kd.string w A1 l1.length l1) (hc1 : l1.length ≤ c1) (h : rung_strange.f k a0_0 a0_1 a0_2 l0_3 l1 = some r) (hN : A1 ≠ none) (hT : UT w) :
    Calls Tryd.prog 123 #[.agg #[.int .i64 a0_0, .int .i64 a0_1, .string a0_2, .slice A0_3 l0_3.length c0_3], .slice A1 l1.length c1] w fun e w' => e = .returned (.bool r) ∧ Below w.heap.size w w' := by
  have HT0 := Aside0.mk hT
  clear hT
  have hN2 : ∀ w' : World, (binOp .neq 23 (.slice A1 l1.length c1) (.slice none 0 0)).run Tryd.prog w' = .ok (.bool true) w' := fun w' => by rw [Go.run_neq_slice_nil w' 23 9 A1 l1.length c1 Tryd.underlying23]; cases h_ : A1 with | none => exact absurd h_ hN | some _ => rfl
  have HNL := Aside0.mk hN
  clear hN
  have hu34 := Tryd.underlying34
  have HR0_3 := Aside0.mk hr0_3
  have HC0_3 := Aside0.mk hc0_3
  clear hr0_3 hc0_3
  have HR1 := Aside0.mk hr1
  have HC1 := Aside0.mk hc1
  clear hr1 hc1
  have HB := Aside0.mk (Below.refl w.heap.size w)
  have H : ((expr_Names.f k a0_0 a0_1 a0_2 l0_3).bind fun t102 => (rung_strange.l0 k l1 t102 (t102.length : Int) 0)) = some r := h
  clear h
  replace H := qi H
  obtain ⟨t102, A3, H⟩ := H
  have H' := Aside0.mk H
  clear H
  go_enter Tryd.func123, Tryd.ntmps123
  go_wp2_with (first | ((with_reducible refine gate_dst (N := 2) rfl ?_); refine box_event ?hg (N := 2) ?hd (cs := #[.int .i64 a0_0, .int .i64 a0_1, .string a0_2, .slice A0_3 l0_3.length c0_3]) (t := 34) ?hr ?_; (case hd => rfl); (case hg => rfl); (case hr => first | (go_simp; done) | (go_simp; rfl)); intro gb101 hg w4 hbox hb; have n0_ := qs hb; have n1_ := Aside0.mk (hbox); have n2_ := Aside0.mk ((by rw [hg]; exact (below_size qb) : w.heap.size ≤ gb101)); have n3_ := Aside0.mk ((by rw [hg]; exact (below_size qb) : w.heap.size ≤ gb101)); clear HB; have HB := n0_; have BK101 := n1_; have GW101 := n2_; have GE101 := n3_; clear n0_ n1_ n2_ n3_; clear hb hbox hg; obtain ⟨_, _, _, _, _, _, _, _⟩ := q4 BK101.out) | ((with_reducible refine gate_callee (f := 106) rfl ?_); refine goesL_ (some 8) rfl rfl Tryd.func106 (by kernel_rfl) rfl #[.agg #[.int .i64 a0_0, .int .i64 a0_1, .string a0_2, .slice A0_3 l0_3.length c0_3]] rfl qm ?_; (with_reducible refine (expr_Names.calls k a0_0 a0_1 a0_2 _ _ l0_3 t102 _ ?side1 ?side2 A3.out (by first | exact HT0.out | exact UT.below HT0.out qb)).mono ?_); (case side1 => exact qC HR0_3.out); (case side2 => exact HC0_3.out); rintro e w6 ⟨v103, rfl, ho0, hb⟩; refine ⟨_, rfl, ?_⟩; have n0_ := Aside0.mk (Kd.R_lower ho0 (below_size qb)); have n1_ := qn101 (g := gb101) hb; have n2_ := qs hb; clear BK101; clear HB; have HO104 := n0_; have BK101 := n1_; have HB := n2_; clear n0_ n1_ n2_; (try clear hb); (try clear ho0); obtain ⟨Ao7, co7, eo7⟩ := Kd.R_slice HO104.out; subst eo7))
  go_loopg [10] k (fun kq v10 w' => ∃ (x10_1 : Int), v10 = .int .i64 x10_1 ∧ Aside0 (rung_strange.l0 kq l1 t102 (t102.length : Int) x10_1 = some r) ∧ Aside0 (kq ≤ k) ∧ Aside0 (Kd.R Kd.string 9 w' w.heap.size (fun _ => True) (.slice Ao7 t102.length co7) t102) ∧ Aside0 (w'.heap[gb101]? = some (.cells #[.int .i64 a0_0, .int .i64 a0_1, .string a0_2, (.slice A0_3 l0_3.length c0_3)] 34 (0, 0))) ∧ Aside0 (Below w.heap.size w w'))
  case atStart => exact ⟨(0), qv, H', ⟨Nat.le_refl _⟩, ⟨by (with_reducible repeat (first | apply Kd.R_alloc | apply Kd.R_drewN | apply Kd.R_drew)); exact HO104.out⟩, qk101, qB⟩
  case round =>
    clear H'
    obtain ⟨x10_1, rfl, HA, HK1, HO_8, BK101, HB⟩ := hrel
    cases gk with
    | zero => exact absurd HA.out (by simp [rung_strange.l0])
    | succ k1 =>
      have H := HA.out
      clear HA
      simp only [rung_strange.l0] at H
      by_cases c8 : x10_1 < (t102.length : Int)
      · rw [if_pos c8] at H
        have c8b0 : decide (x10_1 < (t102.length : Int)) = true := decide_eq_true c8
        clear c8
        by_cases c9 : 0 ≤ x10_1
        · rw [if_pos c9] at H
          have c9b0 : decide (0 ≤ x10_1) = true := decide_eq_true c9
          clear c9
          by_cases c10 : x10_1 < (t102.length : Int)
          · rw [if_pos c10] at H
            have c10b0 : decide (x10_1 < (t102.length : Int)) = true := decide_eq_true c10
            clear c10
            replace H := qi H
            obtain ⟨t106, A11, H⟩ := H
            by_cases c12 : t106 = true
            · subst c12
              rw [if_pos rfl] at H
              have H' := Aside0.mk H
              clear H
              have p105 : 0 ≤ (x10_1 : Int) := qa
              have q105 : x10_1 < (t102.length : Int) := qa
              obtain ⟨ad105, e105, hx105_0⟩ := Kd.at_string (Kd.R_reads' HO_8.out).2.2 x10_1 p105 q105
              cases e105
              replace p105 := eq_true p105
              replace q105 := eq_true q105
              go_wp2_with (first | (go_at_call 61; (with_reducible refine (slices_Contains_string_string.calls k1 _ _ l1 (rdOf ByteArray.empty t102 x10_1) true _ ?side1 ?side2 A11.out).mono ?_); (case side1 => exact qC HR1.out); (case side2 => exact HC1.out); rintro e w' ⟨rfl, ⟨nd, rfl⟩⟩))
              go_roundg k1
              case measure => have := HK1.out; omega
              case rel => exact ⟨(wrap64 (x10_1 + 1)), qv, H', ⟨by have := HK1.out; omega⟩, ⟨by (with_reducible repeat (first | apply Kd.R_alloc | apply Kd.R_drewN | apply Kd.R_drew)); exact HO_8.out⟩, qk101, qB⟩
            replace c12 := Bool.eq_false_iff.mpr c12
            subst c12
            rw [if_neg qf] at H
            obtain rfl := Option.some.inj H
            have p105 : 0 ≤ (x10_1 : Int) := qa
            have q105 : x10_1 < (t102.length : Int) := qa
            obtain ⟨ad105, e105, hx105_0⟩ := Kd.at_string (Kd.R_reads' HO_8.out).2.2 x10_1 p105 q105
            cases e105
            replace p105 := eq_true p105
            replace q105 := eq_true q105
            go_wp2_with (first | (go_at_call 61; (with_reducible refine (slices_Contains_string_string.calls k1 _ _ l1 (rdOf ByteArray.empty t102 x10_1) false _ ?side1 ?side2 A11.out).mono ?_); (case side1 => exact qC HR1.out); (case side2 => exact HC1.out); rintro e w' ⟨rfl, ⟨nd, rfl⟩⟩))
            go_ret
            exact qr
          rw [if_neg c10] at H
          exact absurd H (by simp)
        rw [if_neg c9] at H
        exact absurd H (by simp)
      rw [if_neg c8] at H
      have c8b0 : decide (x10_1 < (t102.length : Int)) = false := decide_eq_false c8
      clear c8
      obtain rfl := Option.some.inj H
      go_wp2
      go_ret
      exact qr
end Go.Proofs.YtiaccdaeomaogaaDoor.F
