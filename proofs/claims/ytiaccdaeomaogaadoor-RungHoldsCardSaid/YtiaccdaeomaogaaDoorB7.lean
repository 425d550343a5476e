/- Texts of one claim, slimmed and merged by slim.py. -/
import Derived.Lib.LazyBuf
import Derived.SizedLaws
import Derived.Test.YtiaccdaeomaogaaDoorB2
import Derived.Test.YtiaccdaeomaogaaDoorB3
import Derived.Test.YtiaccdaeomaogaaDoorB4
import Derived.Test.YtiaccdaeomaogaaDoorB6
namespace Go.Proofs.YtiaccdaeomaogaaDoor.F
open Go.RowKit Go.Proofs.YtiaccdaeomaogaaDoorW.PrintWords Go.Proofs.YtiaccdaeomaogaaDoorW.PrintLast Go.Proofs.YtiaccdaeomaogaaDoorW.PrintMore
attribute [local go_sem] max2_int min2_int max_two min_two max_three min_three max_four min_four   -- for this text's walks alone
set_option linter.unusedVariables false
set_option linter.unusedSimpArgs false
def rung_strange.l0 : Nat → List ByteArray → List ByteArray → Int → Int → Option (Bool)
  | 0, _, _, _, _ => none
  | k + 1, x1, x8, x9, x10 => if x10 < x9 then (if 0 ≤ x10 then (if x10 < (x8.length : Int) then ((slices_Contains_string_string.f k x1 (rdOf ByteArray.empty x8 x10)).bind fun t106 => (if t106 = true then (rung_strange.l0 k x1 x8 x9 (wrap64 (x10 + 1))) else (some true))) else (none)) else (none)) else (some false)
def rung_strange.f (k : Nat) (a0_0 : Int) (a0_1 : Int) (a0_2 : ByteArray) (l0_3 : List (S34)) (l1 : List ByteArray) : Option (Bool) := (expr_Names.f k a0_0 a0_1 a0_2 l0_3).bind fun t102 => (rung_strange.l0 k l1 t102 (t102.length : Int) 0)
theorem rung_strange.mono_l : ∀ k, (∀ y0 y1 y2 y3, LeO (rung_strange.l0 k y0 y1 y2 y3) (rung_strange.l0 (k + 1) y0 y1 y2 y3))
  | 0 => fun _ _ _ _ r h => by simp [rung_strange.l0] at h
  | k + 1 => by
    have ih0 := rung_strange.mono_l k
    · intro y0 y1 y2 y3
      unfold rung_strange.l0
      repeat' first
      | (with_reducible exact ih0 _ _ _ _)
      | (with_reducible exact expr_Names.mono _ _ _ _ _)
      | (with_reducible exact slices_Contains_string_string.mono _ _ _)
      | (with_reducible exact LeO.refl _)
      | (with_reducible exact LeO.none _)
      | (with_reducible refine LeO.ite ?_ ?_)
      | (with_reducible refine LeO.bind ?_ (fun _ => ?_))
      | exact ih0 _ _ _ _
      | exact expr_Names.mono _ _ _ _ _
      | exact slices_Contains_string_string.mono _ _ _
      | exact LeO.none _
      | refine LeO.ite ?_ ?_
      | refine LeO.bind ?_ (fun _ => ?_)
theorem rung_strange.mono : ∀ a0 a1 a2 a3 a4 k, LeO (rung_strange.f k a0 a1 a2 a3 a4) (rung_strange.f (k + 1) a0 a1 a2 a3 a4) := by
  intro a0 a1 a2 a3 a4 k
  have ih0 := rung_strange.mono_l k
  unfold rung_strange.f
  repeat' first
      | (with_reducible exact ih0 _ _ _ _)
      | (with_reducible exact expr_Names.mono _ _ _ _ _)
      | (with_reducible exact slices_Contains_string_string.mono _ _ _)
      | (with_reducible exact LeO.refl _)
      | (with_reducible exact LeO.none _)
      | (with_reducible refine LeO.ite ?_ ?_)
      | (with_reducible refine LeO.bind ?_ (fun _ => ?_))
      | exact ih0 _ _ _ _
      | exact expr_Names.mono _ _ _ _ _
      | exact slices_Contains_string_string.mono _ _ _
      | exact LeO.none _
      | refine LeO.ite ?_ ?_
      | refine LeO.bind ?_ (fun _ => ?_)
set_option maxHeartbeats 8000000 in
set_option maxRecDepth 100000 in
theorem rung_strange.calls (k : Nat) (a0_0 : Int) (a0_1 : Int) (a0_2 : ByteArray) (A0_3 : Option Addr) (c0_3 : Nat) (l0_3 : List (S34)) (A1 : Option Addr) (c1 : Nat) (l1 : List ByteArray) (r : Bool) (w : World) (hr0_3 : Kd.C k34 w A0_3 l0_3.length l0_3) (hc0_3 : l0_3.length ≤ c0_3) (hr1 : Kd.C Kd.string w A1 l1.length l1) (hc1 : l1.length ≤ c1) (h : rung_strange.f k a0_0 a0_1 a0_2 l0_3 l1 = some r) (hN : A1 ≠ none) (hT : UT w) :
    Calls Tryd.prog 123 #[.agg #[.int .i64 a0_0, .int .i64 a0_1, .string a0_2, .slice A0_3 l0_3.length c0_3], .slice A1 l1.length c1] w fun e w' => e = .returned (.bool r) ∧ Below w.heap.size w w' := by
  have HT0 := Aside0.mk hT
  clear hT
  have hN2 : ∀ w' : World, (binOp .neq 23 (.slice A1 l1.length c1) (.slice none 0 0)).run Tryd.prog w' = .ok (.bool true) w' := fun w' => by rw [Go.run_neq_slice_nil w' 23 9 A1 l1.length c1 Tryd.underlying23]; cases h_ : A1 with | none => exact absurd h_ hN | some _ => rfl
  have HNL := Aside0.mk hN
  clear hN
  have hu34 := Tryd.underlying34
  have HR0_3 := Aside0.mk hr0_3
  have HC0_3 := Aside0.mk hc0_3
  clear hr0_3 hc0_3
  have HR1 := Aside0.mk hr1
  have HC1 := Aside0.mk hc1
  clear hr1 hc1
  have HB := Aside0.mk (Below.refl w.heap.size w)
  have H : ((expr_Names.f k a0_0 a0_1 a0_2 l0_3).bind fun t102 => (rung_strange.l0 k l1 t102 (t102.length : Int) 0)) = some r := h
  clear h
  replace H := qi H
  obtain ⟨t102, A3, H⟩ := H
  have H' := Aside0.mk H
  clear H
  go_enter Tryd.func123, Tryd.ntmps123
  go_wp2_with (first | ((with_reducible refine gate_dst (N := 2) rfl ?_); refine box_event ?hg (N := 2) ?hd (cs := #[.int .i64 a0_0, .int .i64 a0_1, .string a0_2, .slice A0_3 l0_3.length c0_3]) (t := 34) ?hr ?_; (case hd => rfl); (case hg => rfl); (case hr => first | (go_simp; done) | (go_simp; rfl)); intro gb101 hg w4 hbox hb; have n0_ := qs hb; have n1_ := Aside0.mk (hbox); have n2_ := Aside0.mk ((by rw [hg]; exact (below_size qb) : w.heap.size ≤ gb101)); have n3_ := Aside0.mk ((by rw [hg]; exact (below_size qb) : w.heap.size ≤ gb101)); clear HB; have HB := n0_; have BK101 := n1_; have GW101 := n2_; have GE101 := n3_; clear n0_ n1_ n2_ n3_; clear hb hbox hg; obtain ⟨_, _, _, _, _, _, _, _⟩ := q4 BK101.out) | ((with_reducible refine gate_callee (f := 106) rfl ?_); refine goesL_ (some 8) rfl rfl Tryd.func106 (by kernel_rfl) rfl #[.agg #[.int .i64 a0_0, .int .i64 a0_1, .string a0_2, .slice A0_3 l0_3.length c0_3]] rfl qm ?_; (with_reducible refine (expr_Names.calls k a0_0 a0_1 a0_2 _ _ l0_3 t102 _ ?side1 ?side2 A3.out (by first | exact HT0.out | exact UT.below HT0.out qb)).mono ?_); (case side1 => exact qC HR0_3.out); (case side2 => exact HC0_3.out); rintro e w6 ⟨v103, rfl, ho0, hb⟩; refine ⟨_, rfl, ?_⟩; have n0_ := Aside0.mk (Kd.R_lower ho0 (below_size qb)); have n1_ := qn (g := gb101) hb; have n2_ := qs hb; clear BK101; clear HB; have HO104 := n0_; have BK101 := n1_; have HB := n2_; clear n0_ n1_ n2_; (try clear hb); (try clear ho0); obtain ⟨Ao7, co7, eo7⟩ := Kd.R_slice HO104.out; subst eo7))
  go_loopg [10] k (fun kq v10 w' => ∃ (x10_1 : Int), v10 = .int .i64 x10_1 ∧ Aside0 (rung_strange.l0 kq l1 t102 (t102.length : Int) x10_1 = some r) ∧ Aside0 (kq ≤ k) ∧ Aside0 (Kd.R Kd.string 9 w' w.heap.size (fun _ => True) (.slice Ao7 t102.length co7) t102) ∧ Aside0 (w'.heap[gb101]? = some (.cells #[.int .i64 a0_0, .int .i64 a0_1, .string a0_2, (.slice A0_3 l0_3.length c0_3)] 34 (0, 0))) ∧ Aside0 (Below w.heap.size w w'))
  case atStart => exact ⟨(0), qv, H', ⟨Nat.le_refl _⟩, ⟨by (with_reducible repeat (first | apply Kd.R_alloc | apply Kd.R_drewN | apply Kd.R_drew)); exact HO104.out⟩, qk, qB⟩
  case round =>
    clear H'
    obtain ⟨x10_1, rfl, HA, HK1, HO_8, BK101, HB⟩ := hrel
    cases gk with
    | zero => exact absurd HA.out (by simp [rung_strange.l0])
    | succ k1 =>
      have H := HA.out
      clear HA
      simp only [rung_strange.l0] at H
      by_cases c8 : x10_1 < (t102.length : Int)
      · rw [if_pos c8] at H
        have c8b0 : decide (x10_1 < (t102.length : Int)) = true := decide_eq_true c8
        clear c8
        by_cases c9 : 0 ≤ x10_1
        · rw [if_pos c9] at H
          have c9b0 : decide (0 ≤ x10_1) = true := decide_eq_true c9
          clear c9
          by_cases c10 : x10_1 < (t102.length : Int)
          · rw [if_pos c10] at H
            have c10b0 : decide (x10_1 < (t102.length : Int)) = true := decide_eq_true c10
            clear c10
            replace H := qi H
            obtain ⟨t106, A11, H⟩ := H
            by_cases c12 : t106 = true
            · subst c12
              rw [if_pos rfl] at H
              have H' := Aside0.mk H
              clear H
              have p105 : 0 ≤ (x10_1 : Int) := qa
              have q105 : x10_1 < (t102.length : Int) := qa
              obtain ⟨ad105, e105, hx105_0⟩ := Kd.at_string (Kd.R_reads' HO_8.out).2.2 x10_1 p105 q105
              cases e105
              replace p105 := eq_true p105
              replace q105 := eq_true q105
              go_wp2_with (first | (go_at_call 61; (with_reducible refine (slices_Contains_string_string.calls k1 _ _ l1 (rdOf ByteArray.empty t102 x10_1) true _ ?side1 ?side2 A11.out).mono ?_); (case side1 => exact qC HR1.out); (case side2 => exact HC1.out); rintro e w' ⟨rfl, ⟨nd, rfl⟩⟩))
              go_roundg k1
              case measure => have := HK1.out; omega
              case rel => exact ⟨(wrap64 (x10_1 + 1)), qv, H', ⟨by have := HK1.out; omega⟩, ⟨by (with_reducible repeat (first | apply Kd.R_alloc | apply Kd.R_drewN | apply Kd.R_drew)); exact HO_8.out⟩, qk, qB⟩
            · replace c12 := Bool.eq_false_iff.mpr c12
              subst c12
              rw [if_neg qf] at H
              obtain rfl := Option.some.inj H
              have p105 : 0 ≤ (x10_1 : Int) := qa
              have q105 : x10_1 < (t102.length : Int) := qa
              obtain ⟨ad105, e105, hx105_0⟩ := Kd.at_string (Kd.R_reads' HO_8.out).2.2 x10_1 p105 q105
              cases e105
              replace p105 := eq_true p105
              replace q105 := eq_true q105
              go_wp2_with (first | (go_at_call 61; (with_reducible refine (slices_Contains_string_string.calls k1 _ _ l1 (rdOf ByteArray.empty t102 x10_1) false _ ?side1 ?side2 A11.out).mono ?_); (case side1 => exact qC HR1.out); (case side2 => exact HC1.out); rintro e w' ⟨rfl, ⟨nd, rfl⟩⟩))
              go_ret
              exact qr
          · rw [if_neg c10] at H
            exact absurd H (by simp)
        · rw [if_neg c9] at H
          exact absurd H (by simp)
      · rw [if_neg c8] at H
        have c8b0 : decide (x10_1 < (t102.length : Int)) = false := decide_eq_false c8
        clear c8
        obtain rfl := Option.some.inj H
        go_wp2
        go_ret
        exact qr
mutual
def rung_code.l0 : Nat → List ByteArray → List ByteArray → Int → List (S40) → Int → Int → Option (Int)
  | 0, _, _, _, _, _, _ => none
  | k + 1, x1, x2, x7, x17, x18, x19 => if x19 < x18 then (if 0 ≤ x19 then (if x19 < (x17.length : Int) then ((rung_named.f k ((rd_T40 x17 x19).f0)).bind fun bt103 => (if bt103.2.2.2 = true then (if bt103.1 = true then (if ((rd_T40 x17 x19).f0) = 2 then (rung_code.j1 k x1 x2 x7 bt103.1 bt103.2.1 bt103.2.2.1 x17 x18 x19 false ((rd_T40 x17 x19).f0) ((rd_T40 x17 x19).f1) ((rd_T40 x17 x19).f2.f0) ((rd_T40 x17 x19).f2.f1) ((rd_T40 x17 x19).f2.f2) ((rd_T40 x17 x19).f2.f3)) else ((rung_blank.f ((rd_T40 x17 x19).f2.f0) ((rd_T40 x17 x19).f2.f1) ((rd_T40 x17 x19).f2.f2) ((rd_T40 x17 x19).f2.f3)).bind fun t107 => (rung_code.j1 k x1 x2 x7 bt103.1 bt103.2.1 bt103.2.2.1 x17 x18 x19 (!t107) ((rd_T40 x17 x19).f0) ((rd_T40 x17 x19).f1) ((rd_T40 x17 x19).f2.f0) ((rd_T40 x17 x19).f2.f1) ((rd_T40 x17 x19).f2.f2) ((rd_T40 x17 x19).f2.f3)))) else (if ((rd_T40 x17 x19).f1).toList = ([] : List UInt8) then (if ((rd_T40 x17 x19).f0) = 2 then (rung_code.j1 k x1 x2 x7 bt103.1 bt103.2.1 bt103.2.2.1 x17 x18 x19 false ((rd_T40 x17 x19).f0) ((rd_T40 x17 x19).f1) ((rd_T40 x17 x19).f2.f0) ((rd_T40 x17 x19).f2.f1) ((rd_T40 x17 x19).f2.f2) ((rd_T40 x17 x19).f2.f3)) else ((rung_blank.f ((rd_T40 x17 x19).f2.f0) ((rd_T40 x17 x19).f2.f1) ((rd_T40 x17 x19).f2.f2) ((rd_T40 x17 x19).f2.f3)).bind fun t108 => (rung_code.j1 k x1 x2 x7 bt103.1 bt103.2.1 bt103.2.2.1 x17 x18 x19 (!t108) ((rd_T40 x17 x19).f0) ((rd_T40 x17 x19).f1) ((rd_T40 x17 x19).f2.f0) ((rd_T40 x17 x19).f2.f1) ((rd_T40 x17 x19).f2.f2) ((rd_T40 x17 x19).f2.f3)))) else (rung_code.j1 k x1 x2 x7 bt103.1 bt103.2.1 bt103.2.2.1 x17 x18 x19 (((rd_T40 x17 x19).f1).toList != ([] : List UInt8)) ((rd_T40 x17 x19).f0) ((rd_T40 x17 x19).f1) ((rd_T40 x17 x19).f2.f0) ((rd_T40 x17 x19).f2.f1) ((rd_T40 x17 x19).f2.f2) ((rd_T40 x17 x19).f2.f3)))) else (rung_code.j1 k x1 x2 x7 bt103.1 bt103.2.1 bt103.2.2.1 x17 x18 x19 (!bt103.2.2.2) ((rd_T40 x17 x19).f0) ((rd_T40 x17 x19).f1) ((rd_T40 x17 x19).f2.f0) ((rd_T40 x17 x19).f2.f1) ((rd_T40 x17 x19).f2.f2) ((rd_T40 x17 x19).f2.f3)))) else (none)) else (none)) else (if x7 = 1 then (some 0) else (some 1))
def rung_code.j1 : Nat → List ByteArray → List ByteArray → Int → Bool → Int → Int → List (S40) → Int → Int → Bool → Int → ByteArray → Int → Int → ByteArray → List (S34) → Option (Int)
  | 0, _, _, _, _, _, _, _, _, _, _, _, _, _, _, _, _ => none
  | k + 1, x1, x2, x7, x10, x11, x12, x17, x18, x19, x31, x103000, x103001, x103002, x103003, x103004, x103005 => if x31 = true then (some 1) else (if x10 = true then ((slices_Contains_string_string.f k x1 x103001).bind fun t109 => (rung_code.j2 k x1 x2 x7 x11 x12 x17 x18 x19 (!t109) x103000 x103001 x103002 x103003 x103004 x103005)) else (rung_code.j2 k x1 x2 x7 x11 x12 x17 x18 x19 false x103000 x103001 x103002 x103003 x103004 x103005))
def rung_code.j2 : Nat → List ByteArray → List ByteArray → Int → Int → Int → List (S40) → Int → Int → Bool → Int → ByteArray → Int → Int → ByteArray → List (S34) → Option (Int)
  | 0, _, _, _, _, _, _, _, _, _, _, _, _, _, _, _ => none
  | k + 1, x1, x2, x7, x11, x12, x17, x18, x19, x50, x103000, x103001, x103002, x103003, x103004, x103005 => if x50 = true then (rung_code.j3 k x1 x2 x7 x11 x12 x17 x18 x19 x50 x103000 x103001 x103002 x103003 x103004 x103005) else (if x103000 = 2 then ((rung_strange.f k x103002 x103003 x103004 x103005 x2).bind fun t110 => (rung_code.j3 k x1 x2 x7 x11 x12 x17 x18 x19 t110 x103000 x103001 x103002 x103003 x103004 x103005)) else (rung_code.j3 k x1 x2 x7 x11 x12 x17 x18 x19 false x103000 x103001 x103002 x103003 x103004 x103005))
def rung_code.j3 : Nat → List ByteArray → List ByteArray → Int → Int → Int → List (S40) → Int → Int → Bool → Int → ByteArray → Int → Int → ByteArray → List (S34) → Option (Int)
  | 0, _, _, _, _, _, _, _, _, _, _, _, _, _, _, _ => none
  | k + 1, x1, x2, x7, x11, x12, x17, x18, x19, x50, x103000, x103001, x103002, x103003, x103004, x103005 => if x50 = true then (some 21) else (if x103000 = 2 then ((expr_May.f k x103002 x103003 x103004 x103005).bind fun t111 => (rung_code.j4 k x1 x2 x7 x11 x12 x17 x18 x19 (!t111))) else (rung_code.j4 k x1 x2 x7 x11 x12 x17 x18 x19 false))
def rung_code.j4 : Nat → List ByteArray → List ByteArray → Int → Int → Int → List (S40) → Int → Int → Bool → Option (Int)
  | 0, _, _, _, _, _, _, _, _, _ => none
  | k + 1, x1, x2, x7, x11, x12, x17, x18, x19, x68 => if x68 = true then (some 1) else (if x7 < x11 then (some 1) else (if (wrap64 ((wrap64 (x7 - x11)) + x12)) > 8 then (some 1) else (rung_code.l0 k x1 x2 (wrap64 (x7 + (wrap64 (x12 - x11)))) x17 x18 (wrap64 (x19 + 1)))))
end
def rung_code.f (k : Nat) (l0 : List (S40)) (l1 : List ByteArray) (l2 : List ByteArray) : Option (Int) := if (l0.length : Int) > 12 then (some 2) else (rung_code.l0 k l1 l2 0 l0 (l0.length : Int) 0)
theorem rung_code.mono_l : ∀ k, (∀ y0 y1 y2 y3 y4 y5, LeO (rung_code.l0 k y0 y1 y2 y3 y4 y5) (rung_code.l0 (k + 1) y0 y1 y2 y3 y4 y5)) ∧ (∀ y0 y1 y2 y3 y4 y5 y6 y7 y8 y9 y10 y11 y12 y13 y14 y15, LeO (rung_code.j1 k y0 y1 y2 y3 y4 y5 y6 y7 y8 y9 y10 y11 y12 y13 y14 y15) (rung_code.j1 (k + 1) y0 y1 y2 y3 y4 y5 y6 y7 y8 y9 y10 y11 y12 y13 y14 y15)) ∧ (∀ y0 y1 y2 y3 y4 y5 y6 y7 y8 y9 y10 y11 y12 y13 y14, LeO (rung_code.j2 k y0 y1 y2 y3 y4 y5 y6 y7 y8 y9 y10 y11 y12 y13 y14) (rung_code.j2 (k + 1) y0 y1 y2 y3 y4 y5 y6 y7 y8 y9 y10 y11 y12 y13 y14)) ∧ (∀ y0 y1 y2 y3 y4 y5 y6 y7 y8 y9 y10 y11 y12 y13 y14, LeO (rung_code.j3 k y0 y1 y2 y3 y4 y5 y6 y7 y8 y9 y10 y11 y12 y13 y14) (rung_code.j3 (k + 1) y0 y1 y2 y3 y4 y5 y6 y7 y8 y9 y10 y11 y12 y13 y14)) ∧ (∀ y0 y1 y2 y3 y4 y5 y6 y7 y8, LeO (rung_code.j4 k y0 y1 y2 y3 y4 y5 y6 y7 y8) (rung_code.j4 (k + 1) y0 y1 y2 y3 y4 y5 y6 y7 y8))
  | 0 => ⟨fun _ _ _ _ _ _ r h => by simp [rung_code.l0] at h, fun _ _ _ _ _ _ _ _ _ _ _ _ _ _ _ _ r h => by simp [rung_code.j1] at h, fun _ _ _ _ _ _ _ _ _ _ _ _ _ _ _ r h => by simp [rung_code.j2] at h, fun _ _ _ _ _ _ _ _ _ _ _ _ _ _ _ r h => by simp [rung_code.j3] at h, fun _ _ _ _ _ _ _ _ _ r h => by simp [rung_code.j4] at h⟩
  | k + 1 => by
    obtain ⟨ih0, ih1, ih2, ih3, ih4⟩ := rung_code.mono_l k
    refine ⟨?_, ?_, ?_, ?_, ?_⟩
    · intro y0 y1 y2 y3 y4 y5
      unfold rung_code.l0
      repeat' first
      | (with_reducible exact ih0 _ _ _ _ _ _)
      | (with_reducible exact ih1 _ _ _ _ _ _ _ _ _ _ _ _ _ _ _ _)
      | (with_reducible exact ih2 _ _ _ _ _ _ _ _ _ _ _ _ _ _ _)
      | (with_reducible exact ih3 _ _ _ _ _ _ _ _ _ _ _ _ _ _ _)
      | (with_reducible exact ih4 _ _ _ _ _ _ _ _ _)
      | (with_reducible exact expr_May.mono _ _ _ _ _)
      | (with_reducible exact rung_named.mono _ _)
      | (with_reducible exact rung_strange.mono _ _ _ _ _ _)
      | (with_reducible exact slices_Contains_string_string.mono _ _ _)
      | (with_reducible exact LeO.refl _)
      | (with_reducible exact LeO.none _)
      | (with_reducible refine LeO.ite ?_ ?_)
      | (with_reducible refine LeO.bind ?_ (fun _ => ?_))
      | exact ih0 _ _ _ _ _ _
      | exact ih1 _ _ _ _ _ _ _ _ _ _ _ _ _ _ _ _
      | exact ih2 _ _ _ _ _ _ _ _ _ _ _ _ _ _ _
      | exact ih3 _ _ _ _ _ _ _ _ _ _ _ _ _ _ _
      | exact ih4 _ _ _ _ _ _ _ _ _
      | exact expr_May.mono _ _ _ _ _
      | exact rung_named.mono _ _
      | exact rung_strange.mono _ _ _ _ _ _
      | exact slices_Contains_string_string.mono _ _ _
      | exact LeO.none _
      | refine LeO.ite ?_ ?_
      | refine LeO.bind ?_ (fun _ => ?_)
    · intro y0 y1 y2 y3 y4 y5 y6 y7 y8 y9 y10 y11 y12 y13 y14 y15
      unfold rung_code.j1
      repeat' first
      | (with_reducible exact ih0 _ _ _ _ _ _)
      | (with_reducible exact ih1 _ _ _ _ _ _ _ _ _ _ _ _ _ _ _ _)
      | (with_reducible exact ih2 _ _ _ _ _ _ _ _ _ _ _ _ _ _ _)
      | (with_reducible exact ih3 _ _ _ _ _ _ _ _ _ _ _ _ _ _ _)
      | (with_reducible exact ih4 _ _ _ _ _ _ _ _ _)
      | (with_reducible exact expr_May.mono _ _ _ _ _)
      | (with_reducible exact rung_named.mono _ _)
      | (with_reducible exact rung_strange.mono _ _ _ _ _ _)
      | (with_reducible exact slices_Contains_string_string.mono _ _ _)
      | (with_reducible exact LeO.refl _)
      | (with_reducible exact LeO.none _)
      | (with_reducible refine LeO.ite ?_ ?_)
      | (with_reducible refine LeO.bind ?_ (fun _ => ?_))
      | exact ih0 _ _ _ _ _ _
      | exact ih1 _ _ _ _ _ _ _ _ _ _ _ _ _ _ _ _
      | exact ih2 _ _ _ _ _ _ _ _ _ _ _ _ _ _ _
      | exact ih3 _ _ _ _ _ _ _ _ _ _ _ _ _ _ _
      | exact ih4 _ _ _ _ _ _ _ _ _
      | exact expr_May.mono _ _ _ _ _
      | exact rung_named.mono _ _
      | exact rung_strange.mono _ _ _ _ _ _
      | exact slices_Contains_string_string.mono _ _ _
      | exact LeO.none _
      | refine LeO.ite ?_ ?_
      | refine LeO.bind ?_ (fun _ => ?_)
    · intro y0 y1 y2 y3 y4 y5 y6 y7 y8 y9 y10 y11 y12 y13 y14
      unfold rung_code.j2
      repeat' first
      | (with_reducible exact ih0 _ _ _ _ _ _)
      | (with_reducible exact ih1 _ _ _ _ _ _ _ _ _ _ _ _ _ _ _ _)
      | (with_reducible exact ih2 _ _ _ _ _ _ _ _ _ _ _ _ _ _ _)
      | (with_reducible exact ih3 _ _ _ _ _ _ _ _ _ _ _ _ _ _ _)
      | (with_reducible exact ih4 _ _ _ _ _ _ _ _ _)
      | (with_reducible exact expr_May.mono _ _ _ _ _)
      | (with_reducible exact rung_named.mono _ _)
      | (with_reducible exact rung_strange.mono _ _ _ _ _ _)
      | (with_reducible exact slices_Contains_string_string.mono _ _ _)
      | (with_reducible exact LeO.refl _)
      | (with_reducible exact LeO.none _)
      | (with_reducible refine LeO.ite ?_ ?_)
      | (with_reducible refine LeO.bind ?_ (fun _ => ?_))
      | exact ih0 _ _ _ _ _ _
      | exact ih1 _ _ _ _ _ _ _ _ _ _ _ _ _ _ _ _
      | exact ih2 _ _ _ _ _ _ _ _ _ _ _ _ _ _ _
      | exact ih3 _ _ _ _ _ _ _ _ _ _ _ _ _ _ _
      | exact ih4 _ _ _ _ _ _ _ _ _
      | exact expr_May.mono _ _ _ _ _
      | exact rung_named.mono _ _
      | exact rung_strange.mono _ _ _ _ _ _
      | exact slices_Contains_string_string.mono _ _ _
      | exact LeO.none _
      | refine LeO.ite ?_ ?_
      | refine LeO.bind ?_ (fun _ => ?_)
    · intro y0 y1 y2 y3 y4 y5 y6 y7 y8 y9 y10 y11 y12 y13 y14
      unfold rung_code.j3
      repeat' first
      | (with_reducible exact ih0 _ _ _ _ _ _)
      | (with_reducible exact ih1 _ _ _ _ _ _ _ _ _ _ _ _ _ _ _ _)
      | (with_reducible exact ih2 _ _ _ _ _ _ _ _ _ _ _ _ _ _ _)
      | (with_reducible exact ih3 _ _ _ _ _ _ _ _ _ _ _ _ _ _ _)
      | (with_reducible exact ih4 _ _ _ _ _ _ _ _ _)
      | (with_reducible exact expr_May.mono _ _ _ _ _)
      | (with_reducible exact rung_named.mono _ _)
      | (with_reducible exact rung_strange.mono _ _ _ _ _ _)
      | (with_reducible exact slices_Contains_string_string.mono _ _ _)
      | (with_reducible exact LeO.refl _)
      | (with_reducible exact LeO.none _)
      | (with_reducible refine LeO.ite ?_ ?_)
      | (with_reducible refine LeO.bind ?_ (fun _ => ?_))
      | exact ih0 _ _ _ _ _ _
      | exact ih1 _ _ _ _ _ _ _ _ _ _ _ _ _ _ _ _
      | exact ih2 _ _ _ _ _ _ _ _ _ _ _ _ _ _ _
      | exact ih3 _ _ _ _ _ _ _ _ _ _ _ _ _ _ _
      | exact ih4 _ _ _ _ _ _ _ _ _
      | exact expr_May.mono _ _ _ _ _
      | exact rung_named.mono _ _
      | exact rung_strange.mono _ _ _ _ _ _
      | exact slices_Contains_string_string.mono _ _ _
      | exact LeO.none _
      | refine LeO.ite ?_ ?_
      | refine LeO.bind ?_ (fun _ => ?_)
    · intro y0 y1 y2 y3 y4 y5 y6 y7 y8
      unfold rung_code.j4
      repeat' first
      | (with_reducible exact ih0 _ _ _ _ _ _)
      | (with_reducible exact ih1 _ _ _ _ _ _ _ _ _ _ _ _ _ _ _ _)
      | (with_reducible exact ih2 _ _ _ _ _ _ _ _ _ _ _ _ _ _ _)
      | (with_reducible exact ih3 _ _ _ _ _ _ _ _ _ _ _ _ _ _ _)
      | (with_reducible exact ih4 _ _ _ _ _ _ _ _ _)
      | (with_reducible exact expr_May.mono _ _ _ _ _)
      | (with_reducible exact rung_named.mono _ _)
      | (with_reducible exact rung_strange.mono _ _ _ _ _ _)
      | (with_reducible exact slices_Contains_string_string.mono _ _ _)
      | (with_reducible exact LeO.refl _)
      | (with_reducible exact LeO.none _)
      | (with_reducible refine LeO.ite ?_ ?_)
      | (with_reducible refine LeO.bind ?_ (fun _ => ?_))
      | exact ih0 _ _ _ _ _ _
      | exact ih1 _ _ _ _ _ _ _ _ _ _ _ _ _ _ _ _
      | exact ih2 _ _ _ _ _ _ _ _ _ _ _ _ _ _ _
      | exact ih3 _ _ _ _ _ _ _ _ _ _ _ _ _ _ _
      | exact ih4 _ _ _ _ _ _ _ _ _
      | exact expr_May.mono _ _ _ _ _
      | exact rung_named.mono _ _
      | exact rung_strange.mono _ _ _ _ _ _
      | exact slices_Contains_string_string.mono _ _ _
      | exact LeO.none _
      | refine LeO.ite ?_ ?_
      | refine LeO.bind ?_ (fun _ => ?_)
theorem rung_code.mono : ∀ a0 a1 a2 k, LeO (rung_code.f k a0 a1 a2) (rung_code.f (k + 1) a0 a1 a2) := by
  intro a0 a1 a2 k
  obtain ⟨ih0, ih1, ih2, ih3, ih4⟩ := rung_code.mono_l k
  unfold rung_code.f
  repeat' first
      | (with_reducible exact ih0 _ _ _ _ _ _)
      | (with_reducible exact ih1 _ _ _ _ _ _ _ _ _ _ _ _ _ _ _ _)
      | (with_reducible exact ih2 _ _ _ _ _ _ _ _ _ _ _ _ _ _ _)
      | (with_reducible exact ih3 _ _ _ _ _ _ _ _ _ _ _ _ _ _ _)
      | (with_reducible exact ih4 _ _ _ _ _ _ _ _ _)
      | (with_reducible exact expr_May.mono _ _ _ _ _)
      | (with_reducible exact rung_named.mono _ _)
      | (with_reducible exact rung_strange.mono _ _ _ _ _ _)
      | (with_reducible exact slices_Contains_string_string.mono _ _ _)
      | (with_reducible exact LeO.refl _)
      | (with_reducible exact LeO.none _)
      | (with_reducible refine LeO.ite ?_ ?_)
      | (with_reducible refine LeO.bind ?_ (fun _ => ?_))
      | exact ih0 _ _ _ _ _ _
      | exact ih1 _ _ _ _ _ _ _ _ _ _ _ _ _ _ _ _
      | exact ih2 _ _ _ _ _ _ _ _ _ _ _ _ _ _ _
      | exact ih3 _ _ _ _ _ _ _ _ _ _ _ _ _ _ _
      | exact ih4 _ _ _ _ _ _ _ _ _
      | exact expr_May.mono _ _ _ _ _
      | exact rung_named.mono _ _
      | exact rung_strange.mono _ _ _ _ _ _
      | exact slices_Contains_string_string.mono _ _ _
      | exact LeO.none _
      | refine LeO.ite ?_ ?_
      | refine LeO.bind ?_ (fun _ => ?_)
set_option maxHeartbeats 8000000 in
set_option maxRecDepth 100000 in
theorem rung_code.calls (k : Nat) (A0 : Option Addr) (c0 : Nat) (l0 : List (S40)) (A1 : Option Addr) (c1 : Nat) (l1 : List ByteArray) (A2 : Option Addr) (c2 : Nat) (l2 : List ByteArray) (r : Int) (w : World) (hr0 : Kd.C k40 w A0 l0.length l0) (hc0 : l0.length ≤ c0) (hr1 : Kd.C Kd.string w A1 l1.length l1) (hc1 : l1.length ≤ c1) (hr2 : Kd.C Kd.string w A2 l2.length l2) (hc2 : l2.length ≤ c2) (h : rung_code.f k l0 l1 l2 = some r) (hN : A2 ≠ none) (hT : UT w) :
  Calls Tryd.prog 92 #[.slice A0 l0.length c0, .slice A1 l1.length c1, .slice A2 l2.length c2] w fun e w' => e = .returned (.int .i64 r) ∧ Below w.heap.size w w' := by
 have HT0 := Aside0.mk hT
 clear hT
 have HNL := Aside0.mk hN
 clear hN
 have hu40 := Tryd.underlying40
 have hu34 := Tryd.underlying34
 have HR0 := Aside0.mk hr0
 have HC0 := Aside0.mk hc0
 clear hr0 hc0
 have HR1 := Aside0.mk hr1
 have HC1 := Aside0.mk hc1
 clear hr1 hc1
 have HR2 := Aside0.mk hr2
 have HC2 := Aside0.mk hc2
 clear hr2 hc2
 have HB := Aside0.mk (Below.refl w.heap.size w)
 have H : (if (l0.length : Int) > 12 then (some 2) else (rung_code.l0 k l1 l2 0 l0 (l0.length : Int) 0)) = some r := h
 clear h
 by_cases c4 : (l0.length : Int) > 12
 ·rw [if_pos c4] at H
  have c4b0 : decide (12 < (l0.length : Int)) = true := decide_eq_true c4
  have c4b1 : decide (12 < l0.length) = true := decide_eq_true (by omega)
  clear c4
  obtain rfl := Option.some.inj H
  go_enter Tryd.func92, Tryd.ntmps92
  go_wp2
  go_ret
  exact qr
 ·rw [if_neg c4] at H
  have c4b0 : decide (12 < (l0.length : Int)) = false := decide_eq_false c4
  have c4b1 : decide (12 < l0.length) = false := decide_eq_false (by omega)
  clear c4
  have H' := Aside0.mk H
  clear H
  go_enter Tryd.func92, Tryd.ntmps92
  go_wp2
  go_loopg [7, 19] k (fun kq v7 v19 w' => ∃ (x7_1 : Int) (x19_1 : Int), v7 = .int .i64 x7_1 ∧ v19 = .int .i64 x19_1 ∧ Aside0 (rung_code.l0 kq l1 l2 x7_1 l0 (l0.length : Int) x19_1 = some r) ∧ Aside0 (kq ≤ k) ∧ Aside0 (Below w.heap.size w w'))
  case atStart => exact ⟨(0), (0), qv, qv, H', ⟨Nat.le_refl _⟩, qB⟩
  case round =>
   clear H'
   obtain ⟨x7_1, x19_1, rfl, rfl, HA, HK1, HB⟩ := hrel
   cases gk with
   | zero => exact absurd HA.out (by simp [rung_code.l0])
   | succ k1 =>
    have H := HA.out
    clear HA
    simp only [rung_code.l0] at H
    by_cases c5 : x19_1 < (l0.length : Int)
    ·rw [if_pos c5] at H
     have c5b0 : decide (x19_1 < (l0.length : Int)) = true := decide_eq_true c5
     clear c5
     by_cases c6 : 0 ≤ x19_1
     ·rw [if_pos c6] at H
      have c6b0 : decide (0 ≤ x19_1) = true := decide_eq_true c6
      clear c6
      by_cases c7 : x19_1 < (l0.length : Int)
      ·rw [if_pos c7] at H
       have c7b0 : decide (x19_1 < (l0.length : Int)) = true := decide_eq_true c7
       clear c7
       replace H := qi H
       obtain ⟨⟨t103, t104, t105, t106⟩, A8, H⟩ := H
       replace H : (if t106 = true then (if t103 = true then (if ((rd_T40 l0 x19_1).f0) = 2 then (rung_code.j1 k1 l1 l2 x7_1 t103 t104 t105 l0 (l0.length : Int) x19_1 false ((rd_T40 l0 x19_1).f0) ((rd_T40 l0 x19_1).f1) ((rd_T40 l0 x19_1).f2.f0) ((rd_T40 l0 x19_1).f2.f1) ((rd_T40 l0 x19_1).f2.f2) ((rd_T40 l0 x19_1).f2.f3)) else ((rung_blank.f ((rd_T40 l0 x19_1).f2.f0) ((rd_T40 l0 x19_1).f2.f1) ((rd_T40 l0 x19_1).f2.f2) ((rd_T40 l0 x19_1).f2.f3)).bind fun t107 => (rung_code.j1 k1 l1 l2 x7_1 t103 t104 t105 l0 (l0.length : Int) x19_1 (!t107) ((rd_T40 l0 x19_1).f0) ((rd_T40 l0 x19_1).f1) ((rd_T40 l0 x19_1).f2.f0) ((rd_T40 l0 x19_1).f2.f1) ((rd_T40 l0 x19_1).f2.f2) ((rd_T40 l0 x19_1).f2.f3)))) else (if ((rd_T40 l0 x19_1).f1).toList = ([] : List UInt8) then (if ((rd_T40 l0 x19_1).f0) = 2 then (rung_code.j1 k1 l1 l2 x7_1 t103 t104 t105 l0 (l0.length : Int) x19_1 false ((rd_T40 l0 x19_1).f0) ((rd_T40 l0 x19_1).f1) ((rd_T40 l0 x19_1).f2.f0) ((rd_T40 l0 x19_1).f2.f1) ((rd_T40 l0 x19_1).f2.f2) ((rd_T40 l0 x19_1).f2.f3)) else ((rung_blank.f ((rd_T40 l0 x19_1).f2.f0) ((rd_T40 l0 x19_1).f2.f1) ((rd_T40 l0 x19_1).f2.f2) ((rd_T40 l0 x19_1).f2.f3)).bind fun t108 => (rung_code.j1 k1 l1 l2 x7_1 t103 t104 t105 l0 (l0.length : Int) x19_1 (!t108) ((rd_T40 l0 x19_1).f0) ((rd_T40 l0 x19_1).f1) ((rd_T40 l0 x19_1).f2.f0) ((rd_T40 l0 x19_1).f2.f1) ((rd_T40 l0 x19_1).f2.f2) ((rd_T40 l0 x19_1).f2.f3)))) else (rung_code.j1 k1 l1 l2 x7_1 t103 t104 t105 l0 (l0.length : Int) x19_1 (((rd_T40 l0 x19_1).f1).toList != ([] : List UInt8)) ((rd_T40 l0 x19_1).f0) ((rd_T40 l0 x19_1).f1) ((rd_T40 l0 x19_1).f2.f0) ((rd_T40 l0 x19_1).f2.f1) ((rd_T40 l0 x19_1).f2.f2) ((rd_T40 l0 x19_1).f2.f3)))) else (rung_code.j1 k1 l1 l2 x7_1 t103 t104 t105 l0 (l0.length : Int) x19_1 (!t106) ((rd_T40 l0 x19_1).f0) ((rd_T40 l0 x19_1).f1) ((rd_T40 l0 x19_1).f2.f0) ((rd_T40 l0 x19_1).f2.f1) ((rd_T40 l0 x19_1).f2.f2) ((rd_T40 l0 x19_1).f2.f3))) = some r := H
       have HC9 := Aside0.mk H
       clear H
       have p101 : 0 ≤ (x19_1 : Int) := qa
       have q101 : x19_1 < (l0.length : Int) := qa
       obtain ⟨ad101, A101_5, c101_5, e101, hx101_0, hx101_1, hx101_2, hx101_3, hx101_4, hx101_5, hl101_5, hi101_5⟩ := at_T40 HR0.out x19_1 p101 q101
       cases e101
       replace hx101_0 := qc HB.out hx101_0
       replace hx101_1 := qc HB.out hx101_1
       replace hx101_2 := qc HB.out hx101_2
       replace hx101_3 := qc HB.out hx101_3
       replace hx101_4 := qc HB.out hx101_4
       replace hx101_5 := qc HB.out hx101_5
       have HR101_5 := Aside0.mk hi101_5
       have HC101_5 := Aside0.mk hl101_5
       clear hi101_5 hl101_5
       replace p101 := eq_true p101
       replace q101 := eq_true q101
       go_upto_if 31 with (first | ((with_reducible refine gate_dst (N := 9) rfl ?_); refine box_event ?hg (N := 9) ?hd (cs := #[.int .i64 0, .string (⟨#[]⟩ : ByteArray), .int .i64 0, .int .i64 0, .string (⟨#[]⟩ : ByteArray), .slice none 0 0]) (t := 40) ?hr ?_; (case hd => rfl); (case hg => rfl); (case hr => first | (go_simp; done) | (go_simp; rfl)); intro gb102 hg w10 hbox hb; have n0_ := qs hb; have n1_ := Aside0.mk (hbox); have n2_ := Aside0.mk ((by rw [hg]; exact (below_size qb) : w.heap.size ≤ gb102)); have n3_ := Aside0.mk ((by rw [hg]; exact (below_size qb) : w.heap.size ≤ gb102)); clear HB; have HB := n0_; have BK102 := n1_; have GW102 := n2_; have GE102 := n3_; clear n0_ n1_ n2_ n3_; clear hb hbox hg; obtain ⟨_, _, _, _, _, _, _, _, _, _, _, _⟩ := q6 BK102.out) | ((with_reducible refine gate_callee (f := 121) rfl ?_); refine goesL_ (some 26) rfl rfl Tryd.func121 (by kernel_rfl) rfl #[.int .i64 ((rd_T40 l0 x19_1).f0)] rfl qm ?_; (with_reducible refine (rung_named.calls k1 ((rd_T40 l0 x19_1).f0) t103 t104 t105 t106 _ A8.out).mono ?_); rintro e w' ⟨rfl, ⟨nd, rfl⟩⟩; refine ⟨_, rfl, ?_⟩))
       (try simp only [Act.put, List.setIfInBounds_toArray, List.set_cons_zero, List.set_cons_succ])
       go_cut [31] (fun v31 wc => ∃ (kq : Nat) (x31_8 : Bool), v31 = .bool x31_8 ∧ Aside0 (rung_code.j1 kq l1 l2 x7_1 t103 t104 t105 l0 (l0.length : Int) x19_1 x31_8 ((rd_T40 l0 x19_1).f0) ((rd_T40 l0 x19_1).f1) ((rd_T40 l0 x19_1).f2.f0) ((rd_T40 l0 x19_1).f2.f1) ((rd_T40 l0 x19_1).f2.f2) ((rd_T40 l0 x19_1).f2.f3) = some r) ∧ Aside0 (kq ≤ k1) ∧ Aside0 (wc.heap[gb102]? = some (.cells #[.int .i64 ((rd_T40 l0 x19_1).f0), .string ((rd_T40 l0 x19_1).f1), .int .i64 ((rd_T40 l0 x19_1).f2.f0), .int .i64 ((rd_T40 l0 x19_1).f2.f1), .string ((rd_T40 l0 x19_1).f2.f2), (.slice A101_5 ((rd_T40 l0 x19_1).f2.f3).length c101_5)] 40 (0, 0))) ∧ Aside0 (Below w.heap.size w wc))
       case first =>
        have H := HC9.out
        clear HC9
        by_cases c12 : t106 = true
        ·subst c12
         rw [if_pos rfl] at H
         by_cases c13 : t103 = true
         ·subst c13
          rw [if_pos rfl] at H
          by_cases c14 : ((rd_T40 l0 x19_1).f0) = 2
          ·rw [if_pos c14] at H
           obtain ⟨c14b0, c14b1⟩ := qe c14
           clear c14
           (first | rw [c14b0] | (simp only [i64_w, i32_w]; rw [c14b0]) | skip)
           have H' := Aside0.mk H
           clear H
           obtain ⟨_, _, _, _, _, _, _, _, _, _, _, _⟩ := q6 BK102.out
           go_wp2
           go_meet
           case rel => exact ⟨_, (false), qv, H', ⟨by have := HK1.out; first | omega | exact Nat.le_refl _⟩, qY, qB⟩
          ·rw [if_neg c14] at H
           obtain ⟨c14b0, c14b1⟩ := qd c14
           (first | rw [c14b0] | (simp only [i64_w, i32_w]; rw [c14b0]) | skip)
           replace H := qi H
           obtain ⟨t107, A16, H⟩ := H
           have H' := Aside0.mk H
           clear H
           obtain ⟨_, _, _, _, _, _, _, _, _, _, _, _⟩ := q6 BK102.out
           go_wp2_with (first | (go_at_call 122; (with_reducible refine (rung_blank.calls ((rd_T40 l0 x19_1).f2.f0) ((rd_T40 l0 x19_1).f2.f1) ((rd_T40 l0 x19_1).f2.f2) _ _ ((rd_T40 l0 x19_1).f2.f3) t107 _ ?side1 ?side2 A16.out).mono ?_); (case side1 => exact Kd.C_below HR101_5.out qb); (case side2 => exact HC101_5.out); rintro e w18 ⟨rfl, hb⟩; have n0_ := Aside0.mk (blk_below (g := gb102) (o := .cells #[.int .i64 ((rd_T40 l0 x19_1).f0), .string ((rd_T40 l0 x19_1).f1), .int .i64 ((rd_T40 l0 x19_1).f2.f0), .int .i64 ((rd_T40 l0 x19_1).f2.f1), .string ((rd_T40 l0 x19_1).f2.f2), .slice A101_5 ((rd_T40 l0 x19_1).f2.f3).length c101_5] 40 (0, 0)) qy hb); have n1_ := qs hb; clear BK102; clear HB; have BK102 := n0_; have HB := n1_; clear n0_ n1_; (try clear hb)))
           go_meet
           case rel => exact ⟨_, (!t107), qv, H', ⟨by have := HK1.out; first | omega | exact Nat.le_refl _⟩, qk, qB⟩
         ·replace c13 := Bool.eq_false_iff.mpr c13
          subst c13
          rw [if_neg qf] at H
          by_cases c19 : ((rd_T40 l0 x19_1).f1).toList = ([] : List UInt8)
          ·rw [if_pos c19] at H
           obtain ⟨c19b0, c19b1⟩ := qe c19
           clear c19
           by_cases c20 : ((rd_T40 l0 x19_1).f0) = 2
           ·rw [if_pos c20] at H
            obtain ⟨c20b0, c20b1⟩ := qe c20
            clear c20
            have H' := Aside0.mk H
            clear H
            obtain ⟨_, _, _, _, _, _, _, _, _, _, _, _⟩ := q6 BK102.out
            go_wp2
            go_meet
            case rel => exact ⟨_, (false), qv, H', ⟨by have := HK1.out; first | omega | exact Nat.le_refl _⟩, qY, qB⟩
           ·rw [if_neg c20] at H
            obtain ⟨c20b0, c20b1⟩ := qd c20
            replace H := qi H
            obtain ⟨t108, A22, H⟩ := H
            have H' := Aside0.mk H
            clear H
            obtain ⟨_, _, _, _, _, _, _, _, _, _, _, _⟩ := q6 BK102.out
            go_wp2_with (first | (go_at_call 122; (with_reducible refine (rung_blank.calls ((rd_T40 l0 x19_1).f2.f0) ((rd_T40 l0 x19_1).f2.f1) ((rd_T40 l0 x19_1).f2.f2) _ _ ((rd_T40 l0 x19_1).f2.f3) t108 _ ?side1 ?side2 A22.out).mono ?_); (case side1 => exact Kd.C_below HR101_5.out qb); (case side2 => exact HC101_5.out); rintro e w24 ⟨rfl, hb⟩; have n0_ := Aside0.mk (blk_below (g := gb102) (o := .cells #[.int .i64 ((rd_T40 l0 x19_1).f0), .string ((rd_T40 l0 x19_1).f1), .int .i64 ((rd_T40 l0 x19_1).f2.f0), .int .i64 ((rd_T40 l0 x19_1).f2.f1), .string ((rd_T40 l0 x19_1).f2.f2), .slice A101_5 ((rd_T40 l0 x19_1).f2.f3).length c101_5] 40 (0, 0)) qy hb); have n1_ := qs hb; clear BK102; clear HB; have BK102 := n0_; have HB := n1_; clear n0_ n1_; (try clear hb)))
            go_meet
            case rel => exact ⟨_, (!t108), qv, H', ⟨by have := HK1.out; first | omega | exact Nat.le_refl _⟩, qk, qB⟩
          ·rw [if_neg c19] at H
           obtain ⟨c19b0, c19b1⟩ := qd c19
           have H' := Aside0.mk H
           clear H
           obtain ⟨_, _, _, _, _, _, _, _, _, _, _, _⟩ := q6 BK102.out
           go_wp2
           go_meet
           case rel => exact ⟨_, ((((rd_T40 l0 x19_1).f1).toList != ([] : List UInt8))), qv, H', ⟨by have := HK1.out; first | omega | exact Nat.le_refl _⟩, qY, qB⟩
        ·replace c12 := Bool.eq_false_iff.mpr c12
         subst c12
         rw [if_neg qf] at H
         have H' := Aside0.mk H
         clear H
         go_wp2
         go_meet
         case rel => exact ⟨_, (!false), qv, H', ⟨by have := HK1.out; first | omega | exact Nat.le_refl _⟩, qY, qB⟩
       case rest =>
        clear HC9
        obtain ⟨kq, x31_8, rfl, HA, HJ8, BK102, HB⟩ := hcut
        cases kq with
        | zero => exact absurd HA.out (by simp [rung_code.j1])
        | succ kj8 =>
         have H := HA.out
         clear HA
         simp only [rung_code.j1] at H
         by_cases c26 : x31_8 = true
         ·subst c26
          rw [if_pos rfl] at H
          obtain rfl := Option.some.inj H
          go_wp2
          go_ret
          exact qr
         ·replace c26 := Bool.eq_false_iff.mpr c26
          subst c26
          rw [if_neg qf] at H
          have HC27 := Aside0.mk H
          clear H
          go_upto_region 12 with (fail)
          go_cut [50] (fun v50 wc => ∃ (kq : Nat) (x50_26 : Bool), v50 = .bool x50_26 ∧ Aside0 (rung_code.j2 kq l1 l2 x7_1 t104 t105 l0 (l0.length : Int) x19_1 x50_26 ((rd_T40 l0 x19_1).f0) ((rd_T40 l0 x19_1).f1) ((rd_T40 l0 x19_1).f2.f0) ((rd_T40 l0 x19_1).f2.f1) ((rd_T40 l0 x19_1).f2.f2) ((rd_T40 l0 x19_1).f2.f3) = some r) ∧ Aside0 (kq ≤ kj8) ∧ Aside0 (wc.heap[gb102]? = some (.cells #[.int .i64 ((rd_T40 l0 x19_1).f0), .string ((rd_T40 l0 x19_1).f1), .int .i64 ((rd_T40 l0 x19_1).f2.f0), .int .i64 ((rd_T40 l0 x19_1).f2.f1), .string ((rd_T40 l0 x19_1).f2.f2), (.slice A101_5 ((rd_T40 l0 x19_1).f2.f3).length c101_5)] 40 (0, 0))) ∧ Aside0 (Below w.heap.size w wc))
          case first =>
           have H := HC27.out
           clear HC27
           by_cases c28 : t103 = true
           ·subst c28
            rw [if_pos rfl] at H
            replace H := qi H
            obtain ⟨t109, A29, H⟩ := H
            have H' := Aside0.mk H
            clear H
            obtain ⟨_, _, _, _, _, _, _, _, _, _, _, _⟩ := q6 BK102.out
            go_wp2_with (first | (go_at_call 61; (with_reducible refine (slices_Contains_string_string.calls kj8 _ _ l1 ((rd_T40 l0 x19_1).f1) t109 _ ?side1 ?side2 A29.out).mono ?_); (case side1 => exact qC HR1.out); (case side2 => exact HC1.out); rintro e w' ⟨rfl, ⟨nd, rfl⟩⟩))
            go_meet
            case rel => exact ⟨_, (!t109), qv, H', ⟨by have := HK1.out; have := HJ8.out; first | omega | exact Nat.le_refl _⟩, qk, qB⟩
           ·replace c28 := Bool.eq_false_iff.mpr c28
            subst c28
            rw [if_neg qf] at H
            have H' := Aside0.mk H
            clear H
            go_wp2
            go_meet
            case rel => exact ⟨_, (false), qv, H', ⟨by have := HK1.out; have := HJ8.out; first | omega | exact Nat.le_refl _⟩, qk, qB⟩
          case rest =>
           clear HC27
           obtain ⟨kq, x50_26, rfl, HA, HJ26, BK102, HB⟩ := hcut
           cases kq with
           | zero => exact absurd HA.out (by simp [rung_code.j2])
           | succ kj26 =>
            have H := HA.out
            clear HA
            simp only [rung_code.j2] at H
            have HC31 := Aside0.mk H
            clear H
            go_upto_if 50 with (fail)
            go_cut [50] (fun v50 wc => ∃ (kq : Nat) (x50_30 : Bool), v50 = .bool x50_30 ∧ Aside0 (rung_code.j3 kq l1 l2 x7_1 t104 t105 l0 (l0.length : Int) x19_1 x50_30 ((rd_T40 l0 x19_1).f0) ((rd_T40 l0 x19_1).f1) ((rd_T40 l0 x19_1).f2.f0) ((rd_T40 l0 x19_1).f2.f1) ((rd_T40 l0 x19_1).f2.f2) ((rd_T40 l0 x19_1).f2.f3) = some r) ∧ Aside0 (kq ≤ kj26) ∧ Aside0 (wc.heap[gb102]? = some (.cells #[.int .i64 ((rd_T40 l0 x19_1).f0), .string ((rd_T40 l0 x19_1).f1), .int .i64 ((rd_T40 l0 x19_1).f2.f0), .int .i64 ((rd_T40 l0 x19_1).f2.f1), .string ((rd_T40 l0 x19_1).f2.f2), (.slice A101_5 ((rd_T40 l0 x19_1).f2.f3).length c101_5)] 40 (0, 0))) ∧ Aside0 (Below w.heap.size w wc))
            case first =>
             have H := HC31.out
             clear HC31
             by_cases c32 : x50_26 = true
             ·subst c32
              rw [if_pos rfl] at H
              have H' := Aside0.mk H
              clear H
              go_wp2
              go_meet
              case rel => exact ⟨_, (true), qv, H', ⟨by have := HK1.out; have := HJ8.out; have := HJ26.out; first | omega | exact Nat.le_refl _⟩, qk, qB⟩
             ·replace c32 := Bool.eq_false_iff.mpr c32
              subst c32
              rw [if_neg qf] at H
              by_cases c33 : ((rd_T40 l0 x19_1).f0) = 2
              ·rw [if_pos c33] at H
               obtain ⟨c33b0, c33b1⟩ := qe c33
               clear c33
               (first | rw [c33b0] | (simp only [i64_w, i32_w]; rw [c33b0]) | skip)
               replace H := qi H
               obtain ⟨t110, A34, H⟩ := H
               have H' := Aside0.mk H
               clear H
               obtain ⟨_, _, _, _, _, _, _, _, _, _, _, _⟩ := q6 BK102.out
               go_wp2_with (first | (go_at_call 123; (with_reducible refine (rung_strange.calls kj26 ((rd_T40 l0 x19_1).f2.f0) ((rd_T40 l0 x19_1).f2.f1) ((rd_T40 l0 x19_1).f2.f2) _ _ ((rd_T40 l0 x19_1).f2.f3) _ _ l2 t110 _ ?side1 ?side2 ?side3 ?side4 A34.out HNL.out (by first | exact HT0.out | exact UT.below HT0.out qb)).mono ?_); (case side1 => exact qC HR101_5.out); (case side2 => exact HC101_5.out); (case side3 => exact qC HR2.out); (case side4 => exact HC2.out); rintro e w36 ⟨rfl, hb⟩; have n0_ := qn (g := gb102) hb; have n1_ := qs hb; clear BK102; clear HB; have BK102 := n0_; have HB := n1_; clear n0_ n1_; (try clear hb)))
               go_meet
               case rel => exact ⟨_, (t110), qv, H', ⟨by have := HK1.out; have := HJ8.out; have := HJ26.out; first | omega | exact Nat.le_refl _⟩, qk, qB⟩
              ·rw [if_neg c33] at H
               obtain ⟨c33b0, c33b1⟩ := qd c33
               (first | rw [c33b0] | (simp only [i64_w, i32_w]; rw [c33b0]) | skip)
               have H' := Aside0.mk H
               clear H
               obtain ⟨_, _, _, _, _, _, _, _, _, _, _, _⟩ := q6 BK102.out
               go_wp2
               go_meet
               case rel => exact ⟨_, (false), qv, H', ⟨by have := HK1.out; have := HJ8.out; have := HJ26.out; first | omega | exact Nat.le_refl _⟩, qk, qB⟩
            case rest =>
             clear HC31
             obtain ⟨kq, x50_30, rfl, HA, HJ30, BK102, HB⟩ := hcut
             cases kq with
             | zero => exact absurd HA.out (by simp [rung_code.j3])
             | succ kj30 =>
              have H := HA.out
              clear HA
              simp only [rung_code.j3] at H
              by_cases c38 : x50_30 = true
              ·subst c38
               rw [if_pos rfl] at H
               obtain rfl := Option.some.inj H
               go_wp2
               go_ret
               exact qr
              ·replace c38 := Bool.eq_false_iff.mpr c38
               subst c38
               rw [if_neg qf] at H
               have HC39 := Aside0.mk H
               clear H
               go_upto_region 15 with (fail)
               go_cut [68] (fun v68 wc => ∃ (kq : Nat) (x68_38 : Bool), v68 = .bool x68_38 ∧ Aside0 (rung_code.j4 kq l1 l2 x7_1 t104 t105 l0 (l0.length : Int) x19_1 x68_38 = some r) ∧ Aside0 (kq ≤ kj30) ∧ Aside0 (wc.heap[gb102]? = some (.cells #[.int .i64 ((rd_T40 l0 x19_1).f0), .string ((rd_T40 l0 x19_1).f1), .int .i64 ((rd_T40 l0 x19_1).f2.f0), .int .i64 ((rd_T40 l0 x19_1).f2.f1), .string ((rd_T40 l0 x19_1).f2.f2), (.slice A101_5 ((rd_T40 l0 x19_1).f2.f3).length c101_5)] 40 (0, 0))) ∧ Aside0 (Below w.heap.size w wc))
               case first =>
                have H := HC39.out
                clear HC39
                by_cases c40 : ((rd_T40 l0 x19_1).f0) = 2
                ·rw [if_pos c40] at H
                 obtain ⟨c40b0, c40b1⟩ := qe c40
                 clear c40
                 (first | rw [c40b0] | (simp only [i64_w, i32_w]; rw [c40b0]) | skip)
                 replace H := qi H
                 obtain ⟨t111, A41, H⟩ := H
                 have H' := Aside0.mk H
                 clear H
                 obtain ⟨_, _, _, _, _, _, _, _, _, _, _, _⟩ := q6 BK102.out
                 go_wp2_with (first | (go_at_call 29; (with_reducible refine (expr_May.calls kj30 ((rd_T40 l0 x19_1).f2.f0) ((rd_T40 l0 x19_1).f2.f1) ((rd_T40 l0 x19_1).f2.f2) _ _ ((rd_T40 l0 x19_1).f2.f3) t111 _ ?side1 ?side2 A41.out (by first | exact HT0.out | exact UT.below HT0.out qb)).mono ?_); (case side1 => exact qC HR101_5.out); (case side2 => exact HC101_5.out); rintro e w43 ⟨rfl, hb⟩; have n0_ := qn (g := gb102) hb; have n1_ := qs hb; clear BK102; clear HB; have BK102 := n0_; have HB := n1_; clear n0_ n1_; (try clear hb)))
                 go_meet
                 case rel => exact ⟨_, (!t111), qv, H', ⟨by have := HK1.out; have := HJ8.out; have := HJ26.out; have := HJ30.out; first | omega | exact Nat.le_refl _⟩, qk, qB⟩
                ·rw [if_neg c40] at H
                 obtain ⟨c40b0, c40b1⟩ := qd c40
                 (first | rw [c40b0] | (simp only [i64_w, i32_w]; rw [c40b0]) | skip)
                 have H' := Aside0.mk H
                 clear H
                 obtain ⟨_, _, _, _, _, _, _, _, _, _, _, _⟩ := q6 BK102.out
                 go_wp2
                 go_meet
                 case rel => exact ⟨_, (false), qv, H', ⟨by have := HK1.out; have := HJ8.out; have := HJ26.out; have := HJ30.out; first | omega | exact Nat.le_refl _⟩, qk, qB⟩
               case rest =>
                clear HC39
                obtain ⟨kq, x68_38, rfl, HA, HJ38, BK102, HB⟩ := hcut
                cases kq with
                | zero => exact absurd HA.out (by simp [rung_code.j4])
                | succ kj38 =>
                 have H := HA.out
                 clear HA
                 simp only [rung_code.j4] at H
                 by_cases c45 : x68_38 = true
                 ·subst c45
                  rw [if_pos rfl] at H
                  obtain rfl := Option.some.inj H
                  go_wp2
                  go_ret
                  exact qr
                 ·replace c45 := Bool.eq_false_iff.mpr c45
                  subst c45
                  rw [if_neg qf] at H
                  by_cases c46 : x7_1 < t104
                  ·rw [if_pos c46] at H
                   have c46b0 : decide (x7_1 < t104) = true := decide_eq_true c46
                   clear c46
                   obtain rfl := Option.some.inj H
                   go_wp2
                   go_ret
                   exact qr
                  ·rw [if_neg c46] at H
                   have c46b0 : decide (x7_1 < t104) = false := decide_eq_false c46
                   clear c46
                   by_cases c47 : (wrap64 ((wrap64 (x7_1 - t104)) + t105)) > 8
                   ·rw [if_pos c47] at H
                    have c47b0 : decide (8 < (wrap64 ((wrap64 (x7_1 - t104)) + t105))) = true := decide_eq_true c47
                    clear c47
                    obtain rfl := Option.some.inj H
                    go_wp2
                    go_ret
                    exact qr
                   ·rw [if_neg c47] at H
                    have c47b0 : decide (8 < (wrap64 ((wrap64 (x7_1 - t104)) + t105))) = false := decide_eq_false c47
                    clear c47
                    have H' := Aside0.mk H
                    clear H
                    go_wp2
                    go_roundg kj38
                    case measure => have := HK1.out; have := HJ8.out; have := HJ26.out; have := HJ30.out; have := HJ38.out; omega
                    case rel => exact ⟨(wrap64 (x7_1 + (wrap64 (t105 - t104)))), (wrap64 (x19_1 + 1)), qv, qv, H', ⟨by have := HK1.out; have := HJ8.out; have := HJ26.out; have := HJ30.out; have := HJ38.out; omega⟩, qB⟩
      ·rw [if_neg c7] at H
       exact absurd H (by simp)
     ·rw [if_neg c6] at H
      exact absurd H (by simp)
    ·rw [if_neg c5] at H
     have c5b0 : decide (x19_1 < (l0.length : Int)) = false := decide_eq_false c5
     clear c5
     by_cases c48 : x7_1 = 1
     ·rw [if_pos c48] at H
      obtain ⟨c48b0, c48b1⟩ := qe c48
      clear c48
      obtain rfl := Option.some.inj H
      go_wp2
      go_ret
      exact qr
     ·rw [if_neg c48] at H
      obtain ⟨c48b0, c48b1⟩ := qd c48
      obtain rfl := Option.some.inj H
      go_wp2
      go_ret
      exact qr
mutual
def rung_check.l0 : Nat → List ByteArray → List ByteArray → List ByteArray → List (S43) → Int → Int → Option (Int)
  | 0, _, _, _, _, _, _ => none
  | k + 1, x1, x2, x7, x16, x17, x18 => if x18 < x17 then (if 0 ≤ x18 then (if x18 < (x16.length : Int) then (if ((rd_T43 x16 x18).f0) < 0 then (rung_check.j1 k x1 x2 x7 x16 x17 x18 true ((rd_T43 x16 x18).f0) ((rd_T43 x16 x18).f1) ((rd_T43 x16 x18).f2)) else (if ((rd_T43 x16 x18).f0) > 4 then (rung_check.j1 k x1 x2 x7 x16 x17 x18 true ((rd_T43 x16 x18).f0) ((rd_T43 x16 x18).f1) ((rd_T43 x16 x18).f2)) else ((lex_Name.f ((rd_T43 x16 x18).f1)).bind fun t106 => (rung_check.j1 k x1 x2 x7 x16 x17 x18 (!t106) ((rd_T43 x16 x18).f0) ((rd_T43 x16 x18).f1) ((rd_T43 x16 x18).f2))))) else (none)) else (none)) else (some 0)
def rung_check.j1 : Nat → List ByteArray → List ByteArray → List ByteArray → List (S43) → Int → Int → Bool → Int → ByteArray → List (S40) → Option (Int)
  | 0, _, _, _, _, _, _, _, _, _, _ => none
  | k + 1, x1, x2, x7, x16, x17, x18, x35, x106000, x106001, x106002 => if x35 = true then (some 1) else (if x106000 ≥ 3 then ((slices_Contains_string_string.f k x2 x106001).bind fun t107 => (rung_check.j2 k x1 x2 x7 x16 x17 x18 (!t107) x106000 x106001 x106002)) else (rung_check.j2 k x1 x2 x7 x16 x17 x18 false x106000 x106001 x106002))
def rung_check.j2 : Nat → List ByteArray → List ByteArray → List ByteArray → List (S43) → Int → Int → Bool → Int → ByteArray → List (S40) → Option (Int)
  | 0, _, _, _, _, _, _, _, _, _, _ => none
  | k + 1, x1, x2, x7, x16, x17, x18, x45, x106000, x106001, x106002 => if x45 = true then (some 21) else ((rung_code.f k x106002 x7 x1).bind fun t108 => (if t108 = 0 then (rung_check.l0 k x1 x2 x7 x16 x17 (wrap64 (x18 + 1))) else (some t108)))
end
def rung_check.f (k : Nat) (l0 : List (S43)) (l1 : List ByteArray) (l2 : List ByteArray) : Option (Int) := if (l0.length : Int) > 12 then (some 2) else ((rung_Bits.f k l0).bind fun t101 => (rung_check.l0 k l1 l2 t101 l0 (l0.length : Int) 0))
theorem rung_check.mono_l : ∀ k, (∀ y0 y1 y2 y3 y4 y5, LeO (rung_check.l0 k y0 y1 y2 y3 y4 y5) (rung_check.l0 (k + 1) y0 y1 y2 y3 y4 y5)) ∧ (∀ y0 y1 y2 y3 y4 y5 y6 y7 y8 y9, LeO (rung_check.j1 k y0 y1 y2 y3 y4 y5 y6 y7 y8 y9) (rung_check.j1 (k + 1) y0 y1 y2 y3 y4 y5 y6 y7 y8 y9)) ∧ (∀ y0 y1 y2 y3 y4 y5 y6 y7 y8 y9, LeO (rung_check.j2 k y0 y1 y2 y3 y4 y5 y6 y7 y8 y9) (rung_check.j2 (k + 1) y0 y1 y2 y3 y4 y5 y6 y7 y8 y9))
  | 0 => ⟨fun _ _ _ _ _ _ r h => by simp [rung_check.l0] at h, fun _ _ _ _ _ _ _ _ _ _ r h => by simp [rung_check.j1] at h, fun _ _ _ _ _ _ _ _ _ _ r h => by simp [rung_check.j2] at h⟩
  | k + 1 => by
    obtain ⟨ih0, ih1, ih2⟩ := rung_check.mono_l k
    refine ⟨?_, ?_, ?_⟩
    · intro y0 y1 y2 y3 y4 y5
      unfold rung_check.l0
      repeat' first
      | (with_reducible exact ih0 _ _ _ _ _ _)
      | (with_reducible exact ih1 _ _ _ _ _ _ _ _ _ _)
      | (with_reducible exact ih2 _ _ _ _ _ _ _ _ _ _)
      | (with_reducible exact rung_Bits.mono _ _)
      | (with_reducible exact rung_code.mono _ _ _ _)
      | (with_reducible exact slices_Contains_string_string.mono _ _ _)
      | (with_reducible exact LeO.refl _)
      | (with_reducible exact LeO.none _)
      | (with_reducible refine LeO.ite ?_ ?_)
      | (with_reducible refine LeO.bind ?_ (fun _ => ?_))
      | exact ih0 _ _ _ _ _ _
      | exact ih1 _ _ _ _ _ _ _ _ _ _
      | exact ih2 _ _ _ _ _ _ _ _ _ _
      | exact rung_Bits.mono _ _
      | exact rung_code.mono _ _ _ _
      | exact slices_Contains_string_string.mono _ _ _
      | exact LeO.none _
      | refine LeO.ite ?_ ?_
      | refine LeO.bind ?_ (fun _ => ?_)
    · intro y0 y1 y2 y3 y4 y5 y6 y7 y8 y9
      unfold rung_check.j1
      repeat' first
      | (with_reducible exact ih0 _ _ _ _ _ _)
      | (with_reducible exact ih1 _ _ _ _ _ _ _ _ _ _)
      | (with_reducible exact ih2 _ _ _ _ _ _ _ _ _ _)
      | (with_reducible exact rung_Bits.mono _ _)
      | (with_reducible exact rung_code.mono _ _ _ _)
      | (with_reducible exact slices_Contains_string_string.mono _ _ _)
      | (with_reducible exact LeO.refl _)
      | (with_reducible exact LeO.none _)
      | (with_reducible refine LeO.ite ?_ ?_)
      | (with_reducible refine LeO.bind ?_ (fun _ => ?_))
      | exact ih0 _ _ _ _ _ _
      | exact ih1 _ _ _ _ _ _ _ _ _ _
      | exact ih2 _ _ _ _ _ _ _ _ _ _
      | exact rung_Bits.mono _ _
      | exact rung_code.mono _ _ _ _
      | exact slices_Contains_string_string.mono _ _ _
      | exact LeO.none _
      | refine LeO.ite ?_ ?_
      | refine LeO.bind ?_ (fun _ => ?_)
    · intro y0 y1 y2 y3 y4 y5 y6 y7 y8 y9
      unfold rung_check.j2
      repeat' first
      | (with_reducible exact ih0 _ _ _ _ _ _)
      | (with_reducible exact ih1 _ _ _ _ _ _ _ _ _ _)
      | (with_reducible exact ih2 _ _ _ _ _ _ _ _ _ _)
      | (with_reducible exact rung_Bits.mono _ _)
      | (with_reducible exact rung_code.mono _ _ _ _)
      | (with_reducible exact slices_Contains_string_string.mono _ _ _)
      | (with_reducible exact LeO.refl _)
      | (with_reducible exact LeO.none _)
      | (with_reducible refine LeO.ite ?_ ?_)
      | (with_reducible refine LeO.bind ?_ (fun _ => ?_))
      | exact ih0 _ _ _ _ _ _
      | exact ih1 _ _ _ _ _ _ _ _ _ _
      | exact ih2 _ _ _ _ _ _ _ _ _ _
      | exact rung_Bits.mono _ _
      | exact rung_code.mono _ _ _ _
      | exact slices_Contains_string_string.mono _ _ _
      | exact LeO.none _
      | refine LeO.ite ?_ ?_
      | refine LeO.bind ?_ (fun _ => ?_)
theorem rung_check.mono : ∀ a0 a1 a2 k, LeO (rung_check.f k a0 a1 a2) (rung_check.f (k + 1) a0 a1 a2) := by
  intro a0 a1 a2 k
  obtain ⟨ih0, ih1, ih2⟩ := rung_check.mono_l k
  unfold rung_check.f
  repeat' first
      | (with_reducible exact ih0 _ _ _ _ _ _)
      | (with_reducible exact ih1 _ _ _ _ _ _ _ _ _ _)
      | (with_reducible exact ih2 _ _ _ _ _ _ _ _ _ _)
      | (with_reducible exact rung_Bits.mono _ _)
      | (with_reducible exact rung_code.mono _ _ _ _)
      | (with_reducible exact slices_Contains_string_string.mono _ _ _)
      | (with_reducible exact LeO.refl _)
      | (with_reducible exact LeO.none _)
      | (with_reducible refine LeO.ite ?_ ?_)
      | (with_reducible refine LeO.bind ?_ (fun _ => ?_))
      | exact ih0 _ _ _ _ _ _
      | exact ih1 _ _ _ _ _ _ _ _ _ _
      | exact ih2 _ _ _ _ _ _ _ _ _ _
      | exact rung_Bits.mono _ _
      | exact rung_code.mono _ _ _ _
      | exact slices_Contains_string_string.mono _ _ _
      | exact LeO.none _
      | refine LeO.ite ?_ ?_
      | refine LeO.bind ?_ (fun _ => ?_)
set_option maxHeartbeats 8000000 in
set_option maxRecDepth 100000 in
theorem rung_check.calls (k : Nat) (A0 : Option Addr) (c0 : Nat) (l0 : List (S43)) (A1 : Option Addr) (c1 : Nat) (l1 : List ByteArray) (A2 : Option Addr) (c2 : Nat) (l2 : List ByteArray) (r : Int) (w : World) (hr0 : Kd.C k43 w A0 l0.length l0) (hc0 : l0.length ≤ c0) (hr1 : Kd.C Kd.string w A1 l1.length l1) (hc1 : l1.length ≤ c1) (hr2 : Kd.C Kd.string w A2 l2.length l2) (hc2 : l2.length ≤ c2) (gp : Nat) (hgp : w.heap[gp]? = some (.cells #[.slice A2 l2.length c2] 23 (0, 0))) (h : rung_check.f k l0 l1 l2 = some r) (hN : A1 ≠ none) (hT : UT w) :
  Calls Tryd.prog 59 #[.slice A0 l0.length c0, .slice A1 l1.length c1, .func (.func 60) #[] #[.pointer (some ⟨gp, 0, none⟩)]] w fun e w' => e = .returned (.int .i64 r) ∧ Below w.heap.size w w' := by
 have HGP := Aside0.mk hgp
 clear hgp
 have HT0 := Aside0.mk hT
 clear hT
 have HNL := Aside0.mk hN
 clear hN
 have hu43 := Tryd.underlying43
 have HR0 := Aside0.mk hr0
 have HC0 := Aside0.mk hc0
 clear hr0 hc0
 have HR1 := Aside0.mk hr1
 have HC1 := Aside0.mk hc1
 clear hr1 hc1
 have HR2 := Aside0.mk hr2
 have HC2 := Aside0.mk hc2
 clear hr2 hc2
 have HB := Aside0.mk (Below.refl w.heap.size w)
 have H : (if (l0.length : Int) > 12 then (some 2) else ((rung_Bits.f k l0).bind fun t101 => (rung_check.l0 k l1 l2 t101 l0 (l0.length : Int) 0))) = some r := h
 clear h
 by_cases c4 : (l0.length : Int) > 12
 ·rw [if_pos c4] at H
  have c4b0 : decide (12 < (l0.length : Int)) = true := decide_eq_true c4
  have c4b1 : decide (12 < l0.length) = true := decide_eq_true (by omega)
  clear c4
  obtain rfl := Option.some.inj H
  go_enter Tryd.func59, Tryd.ntmps59
  go_wp2
  go_ret
  exact qr
 ·rw [if_neg c4] at H
  have c4b0 : decide (12 < (l0.length : Int)) = false := decide_eq_false c4
  have c4b1 : decide (12 < l0.length) = false := decide_eq_false (by omega)
  clear c4
  replace H := qi H
  obtain ⟨t101, A5, H⟩ := H
  have H' := Aside0.mk H
  clear H
  go_enter Tryd.func59, Tryd.ntmps59
  go_wp2_with (first | ((with_reducible refine gate_callee (f := 23) rfl ?_); refine goesL_ (some 15) rfl rfl Tryd.func23 (by kernel_rfl) rfl #[.slice A0 l0.length c0] rfl qm ?_; (with_reducible refine (rung_Bits.calls k _ _ l0 t101 _ ?side1 ?side2 A5.out).mono ?_); (case side1 => repeat (first | exact HR0.out | (with_reducible refine Kd.C_alloc ?_ _) | (with_reducible refine Kd.C_drewN ?_ _) | (with_reducible refine Kd.C_drew ?_))); (case side2 => exact HC0.out); rintro e w6 ⟨v102, rfl, ho0, hb⟩; refine ⟨_, rfl, ?_⟩; have n0_ := Aside0.mk (Kd.R_lower ho0 (below_size qb)); have n1_ := qs hb; clear HB; have HO103 := n0_; have HB := n1_; clear n0_ n1_; (try clear hb); (try clear ho0)))
  go_loopg [18] k (fun kq v18 w' => ∃ (x18_1 : Int), v18 = .int .i64 x18_1 ∧ Aside0 (rung_check.l0 kq l1 l2 t101 l0 (l0.length : Int) x18_1 = some r) ∧ Aside0 (kq ≤ k) ∧ Aside0 (Kd.R Kd.string 9 w' w.heap.size (fun _ => True) v102 t101) ∧ Aside0 (Below w.heap.size w w'))
  case atStart => exact ⟨(0), qv, H', ⟨Nat.le_refl _⟩, ⟨by (with_reducible repeat (first | apply Kd.R_alloc | apply Kd.R_drewN | apply Kd.R_drew)); exact HO103.out⟩, qB⟩
  case round =>
   clear H'
   obtain ⟨x18_1, rfl, HA, HK1, HO_7, HB⟩ := hrel
   cases gk with
   | zero => exact absurd HA.out (by simp [rung_check.l0])
   | succ k1 =>
    have H := HA.out
    clear HA
    simp only [rung_check.l0] at H
    by_cases c7 : x18_1 < (l0.length : Int)
    ·rw [if_pos c7] at H
     have c7b0 : decide (x18_1 < (l0.length : Int)) = true := decide_eq_true c7
     clear c7
     by_cases c8 : 0 ≤ x18_1
     ·rw [if_pos c8] at H
      have c8b0 : decide (0 ≤ x18_1) = true := decide_eq_true c8
      clear c8
      by_cases c9 : x18_1 < (l0.length : Int)
      ·rw [if_pos c9] at H
       have c9b0 : decide (x18_1 < (l0.length : Int)) = true := decide_eq_true c9
       clear c9
       have HC10 := Aside0.mk H
       clear H
       have p104 : 0 ≤ (x18_1 : Int) := qa
       have q104 : x18_1 < (l0.length : Int) := qa
       obtain ⟨ad104, A104_2, c104_2, e104, hx104_0, hx104_1, hx104_2, hl104_2, hi104_2⟩ := at_T43 HR0.out x18_1 p104 q104
       cases e104
       replace hx104_0 := qc HB.out hx104_0
       replace hx104_1 := qc HB.out hx104_1
       replace hx104_2 := qc HB.out hx104_2
       have HR104_2 := Aside0.mk hi104_2
       have HC104_2 := Aside0.mk hl104_2
       clear hi104_2 hl104_2
       replace p104 := eq_true p104
       replace q104 := eq_true q104
       go_upto_region 7 with (first | ((with_reducible refine gate_dst (N := 9) rfl ?_); refine box_event ?hg (N := 9) ?hd (cs := #[.int .i64 0, .string (⟨#[]⟩ : ByteArray), .slice none 0 0]) (t := 43) ?hr ?_; (case hd => rfl); (case hg => rfl); (case hr => first | (go_simp; done) | (go_simp; rfl)); intro gb105 hg w11 hbox hb; have n0_ := Aside0.mk (Kd.R_below (by (with_reducible repeat (first | apply Kd.R_alloc | apply Kd.R_drewN | apply Kd.R_drew)); exact HO_7.out) hb); have n1_ := qs hb; have n2_ := Aside0.mk (hbox); have n3_ := Aside0.mk ((by rw [hg]; exact (below_size qb) : w.heap.size ≤ gb105)); have n4_ := Aside0.mk ((by rw [hg]; exact (below_size qb) : w.heap.size ≤ gb105)); clear HO_7; clear HB; have HO_7 := n0_; have HB := n1_; have BK105 := n2_; have GW105 := n3_; have GE105 := n4_; clear n0_ n1_ n2_ n3_ n4_; clear hb hbox hg; obtain ⟨_, _, _, _, _, _⟩ := q3 BK105.out))
       (try simp only [Act.put, List.setIfInBounds_toArray, List.set_cons_zero, List.set_cons_succ])
       go_cut [35] (fun v35 wc => ∃ (kq : Nat) (x35_9 : Bool), v35 = .bool x35_9 ∧ Aside0 (rung_check.j1 kq l1 l2 t101 l0 (l0.length : Int) x18_1 x35_9 ((rd_T43 l0 x18_1).f0) ((rd_T43 l0 x18_1).f1) ((rd_T43 l0 x18_1).f2) = some r) ∧ Aside0 (kq ≤ k1) ∧ Aside0 (Kd.R Kd.string 9 wc w.heap.size (fun _ => True) v102 t101) ∧ Aside0 (wc.heap[gb105]? = some (.cells #[.int .i64 ((rd_T43 l0 x18_1).f0), .string ((rd_T43 l0 x18_1).f1), (.slice A104_2 ((rd_T43 l0 x18_1).f2).length c104_2)] 43 (0, 0))) ∧ Aside0 (Below w.heap.size w wc))
       case first =>
        have H := HC10.out
        clear HC10
        by_cases c13 : ((rd_T43 l0 x18_1).f0) < 0
        ·rw [if_pos c13] at H
         have c13b0 : decide (((rd_T43 l0 x18_1).f0) < 0) = true := decide_eq_true c13
         clear c13
         (first | rw [c13b0] | (simp only [i64_w, i32_w]; rw [c13b0]) | skip)
         have H' := Aside0.mk H
         clear H
         obtain ⟨_, _, _, _, _, _⟩ := q3 BK105.out
         go_wp2
         go_meet
         case rel => exact ⟨_, (true), qv, H', ⟨by have := HK1.out; first | omega | exact Nat.le_refl _⟩, ⟨by (with_reducible repeat (first | apply Kd.R_alloc | apply Kd.R_drewN | apply Kd.R_drew)); exact Kd.R_mono (Kd.R_far (p := ⟨gb105, 2, none⟩) (Kd.R_far (p := ⟨gb105, 1, none⟩) (Kd.R_far (p := ⟨gb105, 0, none⟩) (Kd.R_types HO_7.out BK105.out (by decide)) (fun _ hk => hk.2) (.int .i64 ((rd_T43 l0 x18_1).f0))) (fun _ hk => hk.2) (.string ((rd_T43 l0 x18_1).f1))) (fun _ hk => hk.2) (.slice A104_2 ((rd_T43 l0 x18_1).f2).length c104_2)) (fun _ hk => trivial)⟩, qY, qB⟩
        ·rw [if_neg c13] at H
         have c13b0 : decide (((rd_T43 l0 x18_1).f0) < 0) = false := decide_eq_false c13
         clear c13
         (first | rw [c13b0] | (simp only [i64_w, i32_w]; rw [c13b0]) | skip)
         by_cases c15 : ((rd_T43 l0 x18_1).f0) > 4
         ·rw [if_pos c15] at H
          have c15b0 : decide (4 < ((rd_T43 l0 x18_1).f0)) = true := decide_eq_true c15
          clear c15
          have H' := Aside0.mk H
          clear H
          obtain ⟨_, _, _, _, _, _⟩ := q3 BK105.out
          go_wp2
          go_meet
          case rel => exact ⟨_, (true), qv, H', ⟨by have := HK1.out; first | omega | exact Nat.le_refl _⟩, ⟨by (with_reducible repeat (first | apply Kd.R_alloc | apply Kd.R_drewN | apply Kd.R_drew)); exact Kd.R_mono (Kd.R_far (p := ⟨gb105, 2, none⟩) (Kd.R_far (p := ⟨gb105, 1, none⟩) (Kd.R_far (p := ⟨gb105, 0, none⟩) (Kd.R_types HO_7.out BK105.out (by decide)) (fun _ hk => hk.2) (.int .i64 ((rd_T43 l0 x18_1).f0))) (fun _ hk => hk.2) (.string ((rd_T43 l0 x18_1).f1))) (fun _ hk => hk.2) (.slice A104_2 ((rd_T43 l0 x18_1).f2).length c104_2)) (fun _ hk => trivial)⟩, qY, qB⟩
         ·rw [if_neg c15] at H
          have c15b0 : decide (4 < ((rd_T43 l0 x18_1).f0)) = false := decide_eq_false c15
          clear c15
          replace H := qi H
          obtain ⟨t106, A17, H⟩ := H
          have H' := Aside0.mk H
          clear H
          obtain ⟨_, _, _, _, _, _⟩ := q3 BK105.out
          go_wp2_with (first | (go_at_call 91; (with_reducible refine (lex_Name.calls ((rd_T43 l0 x18_1).f1) t106 _ A17.out (by first | exact HT0.out | exact UT.below HT0.out qb)).mono ?_); rintro e w19 ⟨rfl, hb⟩; have n0_ := Aside0.mk (Kd.R_below (by (with_reducible repeat (first | apply Kd.R_alloc | apply Kd.R_drewN | apply Kd.R_drew)); exact (Kd.R_mono (Kd.R_far (p := ⟨gb105, 2, none⟩) (Kd.R_far (p := ⟨gb105, 1, none⟩) (Kd.R_far (p := ⟨gb105, 0, none⟩) (Kd.R_types HO_7.out BK105.out (by decide)) (fun _ hk => hk.2) (.int .i64 ((rd_T43 l0 x18_1).f0))) (fun _ hk => hk.2) (.string ((rd_T43 l0 x18_1).f1))) (fun _ hk => hk.2) (.slice A104_2 ((rd_T43 l0 x18_1).f2).length c104_2)) (fun _ h_ => h_.1))) hb); have n1_ := Aside0.mk (blk_below (g := gb105) (o := .cells #[.int .i64 ((rd_T43 l0 x18_1).f0), .string ((rd_T43 l0 x18_1).f1), .slice A104_2 ((rd_T43 l0 x18_1).f2).length c104_2] 43 (0, 0)) qy hb); have n2_ := qs hb; clear HO_7; clear BK105; clear HB; have HO_7 := n0_; have BK105 := n1_; have HB := n2_; clear n0_ n1_ n2_; (try clear hb)))
          go_meet
          case rel => exact ⟨_, (!t106), qv, H', ⟨by have := HK1.out; first | omega | exact Nat.le_refl _⟩, ⟨by (with_reducible repeat (first | apply Kd.R_alloc | apply Kd.R_drewN | apply Kd.R_drew)); exact HO_7.out⟩, qk, qB⟩
       case rest =>
        clear HC10
        obtain ⟨kq, x35_9, rfl, HA, HJ9, HO_7, BK105, HB⟩ := hcut
        cases kq with
        | zero => exact absurd HA.out (by simp [rung_check.j1])
        | succ kj9 =>
         have H := HA.out
         clear HA
         simp only [rung_check.j1] at H
         by_cases c20 : x35_9 = true
         ·subst c20
          rw [if_pos rfl] at H
          obtain rfl := Option.some.inj H
          go_wp2
          go_ret
          exact qr
         ·replace c20 := Bool.eq_false_iff.mpr c20
          subst c20
          rw [if_neg qf] at H
          have HC21 := Aside0.mk H
          clear H
          go_upto_region 9 with (fail)
          go_cut [45] (fun v45 wc => ∃ (kq : Nat) (x45_20 : Bool), v45 = .bool x45_20 ∧ Aside0 (rung_check.j2 kq l1 l2 t101 l0 (l0.length : Int) x18_1 x45_20 ((rd_T43 l0 x18_1).f0) ((rd_T43 l0 x18_1).f1) ((rd_T43 l0 x18_1).f2) = some r) ∧ Aside0 (kq ≤ kj9) ∧ Aside0 (Kd.R Kd.string 9 wc w.heap.size (fun _ => True) v102 t101) ∧ Aside0 (wc.heap[gb105]? = some (.cells #[.int .i64 ((rd_T43 l0 x18_1).f0), .string ((rd_T43 l0 x18_1).f1), (.slice A104_2 ((rd_T43 l0 x18_1).f2).length c104_2)] 43 (0, 0))) ∧ Aside0 (Below w.heap.size w wc))
          case first =>
           have H := HC21.out
           clear HC21
           by_cases c22 : ((rd_T43 l0 x18_1).f0) ≥ 3
           ·rw [if_pos c22] at H
            have c22b0 : decide (3 ≤ ((rd_T43 l0 x18_1).f0)) = true := decide_eq_true c22
            clear c22
            (first | rw [c22b0] | (simp only [i64_w, i32_w]; rw [c22b0]) | skip)
            replace H := qi H
            obtain ⟨t107, A23, H⟩ := H
            have H' := Aside0.mk H
            clear H
            obtain ⟨_, _, _, _, _, _⟩ := q3 BK105.out
            go_wp2_with (first | (go_at_call 60; (with_reducible refine (check_lit kj9 gp A2 c2 l2 ((rd_T43 l0 x18_1).f1) t107 _ ?side0 ?side1 ?side2 A23.out).mono ?_); (case side0 => exact blk_below HGP.out (by repeat (first | exact HB.out | apply below_alloc | apply pw_below_drewN | apply below_drew1))); (case side1 => exact qC HR2.out); (case side2 => exact HC2.out); rintro e w' ⟨rfl, ⟨nd, rfl⟩⟩))
            go_meet
            case rel => exact ⟨_, (!t107), qv, H', ⟨by have := HK1.out; have := HJ9.out; first | omega | exact Nat.le_refl _⟩, ⟨by (with_reducible repeat (first | apply Kd.R_alloc | apply Kd.R_drewN | apply Kd.R_drew)); exact HO_7.out⟩, qk, qB⟩
           ·rw [if_neg c22] at H
            have c22b0 : decide (3 ≤ ((rd_T43 l0 x18_1).f0)) = false := decide_eq_false c22
            clear c22
            (first | rw [c22b0] | (simp only [i64_w, i32_w]; rw [c22b0]) | skip)
            have H' := Aside0.mk H
            clear H
            obtain ⟨_, _, _, _, _, _⟩ := q3 BK105.out
            go_wp2
            go_meet
            case rel => exact ⟨_, (false), qv, H', ⟨by have := HK1.out; have := HJ9.out; first | omega | exact Nat.le_refl _⟩, ⟨by (with_reducible repeat (first | apply Kd.R_alloc | apply Kd.R_drewN | apply Kd.R_drew)); exact HO_7.out⟩, qk, qB⟩
          case rest =>
           clear HC21
           obtain ⟨kq, x45_20, rfl, HA, HJ20, HO_7, BK105, HB⟩ := hcut
           cases kq with
           | zero => exact absurd HA.out (by simp [rung_check.j2])
           | succ kj20 =>
            have H := HA.out
            clear HA
            simp only [rung_check.j2] at H
            by_cases c26 : x45_20 = true
            ·subst c26
             rw [if_pos rfl] at H
             obtain rfl := Option.some.inj H
             go_wp2
             go_ret
             exact qr
            ·replace c26 := Bool.eq_false_iff.mpr c26
             subst c26
             rw [if_neg qf] at H
             replace H := qi H
             obtain ⟨t108, A27, H⟩ := H
             by_cases c28 : t108 = 0
             ·rw [if_pos c28] at H
              obtain ⟨c28b0, c28b1⟩ := qe c28
              clear c28
              have H' := Aside0.mk H
              clear H
              obtain ⟨_, _, _, _, _, _⟩ := q3 BK105.out
              obtain ⟨Ao30, co30, eo30⟩ := Kd.R_slice HO_7.out
              subst eo30
              go_wp2_with (first | ((with_reducible refine gate_callee (f := 92) rfl ?_); refine goesL_ (some 50) rfl rfl Tryd.func92 (by kernel_rfl) rfl #[.slice A104_2 ((rd_T43 l0 x18_1).f2).length c104_2, .slice Ao30 t101.length co30, .slice A1 l1.length c1] rfl qm ?_; (with_reducible refine (rung_code.calls kj20 _ _ ((rd_T43 l0 x18_1).f2) _ _ t101 _ _ l1 t108 _ ?side1 ?side2 ?side3 ?side4 ?side5 ?side6 A27.out HNL.out (by first | exact HT0.out | exact UT.below HT0.out qb)).mono ?_); (case side1 => exact qC HR104_2.out); (case side2 => exact HC104_2.out); (case side3 => repeat (first | exact (Kd.R_reads' HO_7.out).2.2 | (with_reducible refine Kd.C_alloc ?_ _) | (with_reducible refine Kd.C_drewN ?_ _) | (with_reducible refine Kd.C_drew ?_))); (case side4 => exact (Kd.R_reads' HO_7.out).2.1); (case side5 => exact qC HR1.out); (case side6 => exact HC1.out); rintro e w31 ⟨rfl, hb⟩; refine ⟨_, rfl, ?_⟩; have n0_ := Aside0.mk (Kd.R_below (by (with_reducible repeat (first | apply Kd.R_alloc | apply Kd.R_drewN | apply Kd.R_drew)); exact HO_7.out) hb); have n1_ := qn (g := gb105) hb; have n2_ := qs hb; clear HO_7; clear BK105; clear HB; have HO_7 := n0_; have BK105 := n1_; have HB := n2_; clear n0_ n1_ n2_; (try clear hb)))
              go_roundg kj20
              case measure => have := HK1.out; have := HJ9.out; have := HJ20.out; omega
              case rel => exact ⟨(wrap64 (x18_1 + 1)), qv, H', ⟨by have := HK1.out; have := HJ9.out; have := HJ20.out; omega⟩, ⟨by (with_reducible repeat (first | apply Kd.R_alloc | apply Kd.R_drewN | apply Kd.R_drew)); exact HO_7.out⟩, qB⟩
             ·rw [if_neg c28] at H
              obtain ⟨c28b0, c28b1⟩ := qd c28
              obtain rfl := Option.some.inj H
              obtain ⟨_, _, _, _, _, _⟩ := q3 BK105.out
              obtain ⟨Ao33, co33, eo33⟩ := Kd.R_slice HO_7.out
              subst eo33
              go_wp2_with (first | ((with_reducible refine gate_callee (f := 92) rfl ?_); refine goesL_ (some 50) rfl rfl Tryd.func92 (by kernel_rfl) rfl #[.slice A104_2 ((rd_T43 l0 x18_1).f2).length c104_2, .slice Ao33 t101.length co33, .slice A1 l1.length c1] rfl qm ?_; (with_reducible refine (rung_code.calls kj20 _ _ ((rd_T43 l0 x18_1).f2) _ _ t101 _ _ l1 t108 _ ?side1 ?side2 ?side3 ?side4 ?side5 ?side6 A27.out HNL.out (by first | exact HT0.out | exact UT.below HT0.out qb)).mono ?_); (case side1 => exact qC HR104_2.out); (case side2 => exact HC104_2.out); (case side3 => repeat (first | exact (Kd.R_reads' HO_7.out).2.2 | (with_reducible refine Kd.C_alloc ?_ _) | (with_reducible refine Kd.C_drewN ?_ _) | (with_reducible refine Kd.C_drew ?_))); (case side4 => exact (Kd.R_reads' HO_7.out).2.1); (case side5 => exact qC HR1.out); (case side6 => exact HC1.out); rintro e w34 ⟨rfl, hb⟩; refine ⟨_, rfl, ?_⟩; have n0_ := Aside0.mk (Kd.R_below (by (with_reducible repeat (first | apply Kd.R_alloc | apply Kd.R_drewN | apply Kd.R_drew)); exact HO_7.out) hb); have n1_ := qn (g := gb105) hb; have n2_ := qs hb; clear HO_7; clear BK105; clear HB; have HO_7 := n0_; have BK105 := n1_; have HB := n2_; clear n0_ n1_ n2_; (try clear hb)))
              go_ret
              exact qr
      ·rw [if_neg c9] at H
       exact absurd H (by simp)
     ·rw [if_neg c8] at H
      exact absurd H (by simp)
    ·rw [if_neg c7] at H
     have c7b0 : decide (x18_1 < (l0.length : Int)) = false := decide_eq_false c7
     clear c7
     obtain rfl := Option.some.inj H
     go_wp2
     go_ret
     exact qr
def rung_Check.f (k : Nat) (l0 : List (S43)) (l1 l2 : List ByteArray) : Option (Int) := if l1.length < 8796093022208 then rung_check.f k l0 l1 l2 else none
theorem rung_Check.mono : ∀ a0 a1 a2 k, LeO (rung_Check.f k a0 a1 a2) (rung_Check.f (k + 1) a0 a1 a2) := by
  intro a0 a1 a2 k
  unfold rung_Check.f
  exact LeO.ite (rung_check.mono _ _ _ _) (LeO.refl _)
set_option maxHeartbeats 8000000 in
set_option maxRecDepth 100000 in
theorem rung_Check.calls (k : Nat) (A0 : Option Addr) (c0 : Nat) (l0 : List (S43)) (A1 : Option Addr) (c1 : Nat) (l1 : List ByteArray) (A2 : Option Addr) (c2 : Nat) (l2 : List ByteArray) (r : Int) (w : World) (hr0 : Kd.C k43 w A0 l0.length l0) (hc0 : l0.length ≤ c0) (hr1 : Kd.C Kd.string w A1 l1.length l1) (hc1 : l1.length ≤ c1) (hr2 : Kd.C Kd.string w A2 l2.length l2) (hc2 : l2.length ≤ c2) (h : rung_Check.f k l0 l1 l2 = some r) (hT : UT w) :
    Calls Tryd.prog 25 #[.slice A0 l0.length c0, .slice A1 l1.length c1, .slice A2 l2.length c2] w fun e w' => e = .returned (.int .i64 r) ∧ Below w.heap.size w w' := by
  have HT := Aside0.mk hT
  have HR0 := Aside0.mk hr0
  have HC0 := Aside0.mk hc0
  have HR1 := Aside0.mk hr1
  have HC1 := Aside0.mk hc1
  have HR2 := Aside0.mk hr2
  have HC2 := Aside0.mk hc2
  unfold rung_Check.f at h
  by_cases hl : l1.length < 8796093022208
  case neg => rw [if_neg hl] at h; cases h
  rw [if_pos hl] at h
  have HH := Aside0.mk h
  have HL := Aside0.mk hl
  clear hT hr0 hc0 hr1 hc1 hr2 hc2 h hl
  go_enter Tryd.func25, Tryd.ntmps25
  go_wp2_with (first | ((with_reducible refine gate_dst (N := 5) rfl ?_); refine box_event ?hg (N := 5) ?hd (cs := #[.slice A2 l2.length c2]) (t := 23) ?hr ?_; (case hd => rfl); (case hg => rfl); (case hr => first | (go_simp; done) | (go_simp; rfl)); intro gb hg w4 hbox hb; have HB4 := Aside0.mk hb; have HK4 := Aside0.mk hbox; clear hb hg hbox) | ((with_reducible refine gate_builtin (b := .append) (xs := #[.tmp 8, .tmp 9]) rfl ?_); at_builtin; refine Kd.R_append_row Value.string ByteArray.empty (h1 := fun _ => rfl) (w0 := w) w.heap.size rfl (.tmp 8) (.tmp 9) 23 9 (.string ⟨#[]⟩) 16 rfl Tryd.underlying23 info9 rfl (by decide) (.slice (some ⟨w4.heap.size, 0, none⟩) 0 0) [] l1 A1 l1.length c1 (fun _ => True) rfl rfl (fun _ _ => trivial) (Kd.R_of_own (own_lit_of (enc := Value.string) w4 w.heap.size 9 [] HB4.out.size (by simp)) (fun _ _ => trivial)) (Kd.C_alloc (Kd.C_below HR1.out HB4.out) _) (below_alloc HB4.out _) (below_size (below_alloc HB4.out _)) (by have := HL.out; simp; omega) ?_; intro v1 w5 ho hb hg hat; have ho2 : Kd.R Kd.string 9 w5 w.heap.size (fun _ => True) v1 l1 := (by have h9 := ho; rw [List.nil_append] at h9; exact h9); obtain ⟨A5, c5, e5⟩ := Kd.R_slice ho2; subst e5; have hne : A5 ≠ none := (fun e0 => by subst e0; simp [Value.ownBlock] at hat); have HO5 := Aside0.mk ho2; have HN5 := Aside0.mk hne; have HB5 := Aside0.mk hb; have hbk : w5.heap[gb]? = some (.cells #[.slice A2 l2.length c2] 23 (0, 0)) := ((hg.block gb (by have := blk_lt HK4.out; simp; omega) (by have := blk_lt HK4.out; simp [Value.ownBlock]; omega)).trans (heap_alloc_old _ _ (blk_lt HK4.out))).trans HK4.out; have HK5 := Aside0.mk hbk; clear ho ho2 hb hg hat hne hbk) | (go_at_call 59; refine (rung_check.calls k A0 c0 l0 A5 c5 l1 A2 c2 l2 r w5 (Kd.C_below HR0.out HB5.out) HC0.out (Kd.R_reads' HO5.out).2.2 (Kd.R_reads' HO5.out).2.1 (Kd.C_below HR2.out HB5.out) HC2.out gb HK5.out HH.out HN5.out (UT.below HT.out HB5.out)).mono ?_; rintro e w6 ⟨rfl, hb⟩; have HB6 := Aside0.mk (below_step HB5.out hb); clear hb))
  go_ret
  exact ⟨rfl, HB6.out⟩
def malthouselaw09_awake.f (k : Nat)  : Option (Bool) := (malthouselaw09_below.f (⟨#[116]⟩ : ByteArray) 70).bind fun bt101 => ((some (([(⟨3, (⟨#[104, 101, 97, 116]⟩ : ByteArray), (([(⟨bt101.1, bt101.2.1, (⟨bt101.2.2.1, bt101.2.2.2.1, bt101.2.2.2.2.1, bt101.2.2.2.2.2⟩ : S34)⟩ : S40)] : List (S40)))⟩ : S43), (⟨0, (⟨#[98]⟩ : ByteArray), (([(⟨0, (⟨#[98]⟩ : ByteArray), (⟨0, 0, (⟨#[]⟩ : ByteArray), ([] : List (S34))⟩ : S34)⟩ : S40), (⟨9, (⟨#[]⟩ : ByteArray), (⟨0, 0, (⟨#[]⟩ : ByteArray), ([] : List (S34))⟩ : S34)⟩ : S40)] : List (S40)))⟩ : S43)] : List (S43)) : List (S43))).bind fun y115 => ((rung_Run.f k y115 (([false] : List Bool)) (([(⟨(⟨#[116]⟩ : ByteArray), 80⟩ : S69)] : List (S69)))).bind fun bt124 => ((rung_Check.f k y115 (([(⟨#[116]⟩ : ByteArray)] : List ByteArray)) (([(⟨#[104, 101, 97, 116]⟩ : ByteArray)] : List ByteArray))).bind fun t139 => ((rung_Check.f k y115 (([(⟨#[116]⟩ : ByteArray)] : List ByteArray)) ([] : List ByteArray)).bind fun t143 => (if t139 = 0 then (if t143 = 21 then (if (bt124.1.length : Int) = 1 then (if 0 < (bt124.1.length : Int) then (if rdOf false bt124.1 0 = true then (if (bt124.2.1.length : Int) = 1 then (if 0 < (bt124.2.1.length : Int) then (if (rdOf ByteArray.empty bt124.2.1 0).toList = ([104, 101, 97, 116] : List UInt8) then (some ((bt124.2.2.length : Int) == 0)) else (some false)) else (none)) else (some false)) else (some false)) else (none)) else (some false)) else (some false)) else (some false))))))
theorem malthouselaw09_awake.mono : ∀ k, LeO (malthouselaw09_awake.f k ) (malthouselaw09_awake.f (k + 1) ) := by
  intro  k
  unfold malthouselaw09_awake.f
  repeat' first
      | (with_reducible exact rung_Check.mono _ _ _ _)
      | (with_reducible exact rung_Run.mono _ _ _ _)
      | (with_reducible exact LeO.refl _)
      | (with_reducible exact LeO.none _)
      | (with_reducible refine LeO.ite ?_ ?_)
      | (with_reducible refine LeO.bind ?_ (fun _ => ?_))
      | exact rung_Check.mono _ _ _ _
      | exact rung_Run.mono _ _ _ _
      | exact LeO.none _
      | refine LeO.ite ?_ ?_
      | refine LeO.bind ?_ (fun _ => ?_)
set_option maxHeartbeats 8000000 in
set_option maxRecDepth 100000 in
theorem malthouselaw09_awake.calls (k : Nat)  (r : Bool) (w : World) (h : malthouselaw09_awake.f k  = some r) (hT : UT w) (hR : r = true) :
  Calls Tryd.prog 19 #[] w fun e w' => e = .returned (.bool r) ∧ Below w.heap.size w w' := by
 have HT0 := Aside0.mk hT
 clear hT
 have HRT := Aside0.mk hR
 clear hR
 have hu43 := Tryd.underlying43
 have hu40 := Tryd.underlying40
 have hu69 := Tryd.underlying69
 have HB := Aside0.mk (Below.refl w.heap.size w)
 have H : ((malthouselaw09_below.f (⟨#[116]⟩ : ByteArray) 70).bind fun bt101 => ((some (([(⟨3, (⟨#[104, 101, 97, 116]⟩ : ByteArray), (([(⟨bt101.1, bt101.2.1, (⟨bt101.2.2.1, bt101.2.2.2.1, bt101.2.2.2.2.1, bt101.2.2.2.2.2⟩ : S34)⟩ : S40)] : List (S40)))⟩ : S43), (⟨0, (⟨#[98]⟩ : ByteArray), (([(⟨0, (⟨#[98]⟩ : ByteArray), (⟨0, 0, (⟨#[]⟩ : ByteArray), ([] : List (S34))⟩ : S34)⟩ : S40), (⟨9, (⟨#[]⟩ : ByteArray), (⟨0, 0, (⟨#[]⟩ : ByteArray), ([] : List (S34))⟩ : S34)⟩ : S40)] : List (S40)))⟩ : S43)] : List (S43)) : List (S43))).bind fun y115 => ((rung_Run.f k y115 (([false] : List Bool)) (([(⟨(⟨#[116]⟩ : ByteArray), 80⟩ : S69)] : List (S69)))).bind fun bt124 => ((rung_Check.f k y115 (([(⟨#[116]⟩ : ByteArray)] : List ByteArray)) (([(⟨#[104, 101, 97, 116]⟩ : ByteArray)] : List ByteArray))).bind fun t139 => ((rung_Check.f k y115 (([(⟨#[116]⟩ : ByteArray)] : List ByteArray)) ([] : List ByteArray)).bind fun t143 => (if t139 = 0 then (if t143 = 21 then (if (bt124.1.length : Int) = 1 then (if 0 < (bt124.1.length : Int) then (if rdOf false bt124.1 0 = true then (if (bt124.2.1.length : Int) = 1 then (if 0 < (bt124.2.1.length : Int) then (if (rdOf ByteArray.empty bt124.2.1 0).toList = ([104, 101, 97, 116] : List UInt8) then (some ((bt124.2.2.length : Int) == 0)) else (some false)) else (none)) else (some false)) else (some false)) else (none)) else (some false)) else (some false)) else (some false))))))) = some r := h
 clear h
 replace H := qi H
 obtain ⟨⟨t101, t102, t103, t104, t105, t106⟩, A1, H⟩ := H
 replace H : ((some (([(⟨3, (⟨#[104, 101, 97, 116]⟩ : ByteArray), (([(⟨t101, t102, (⟨t103, t104, t105, t106⟩ : S34)⟩ : S40)] : List (S40)))⟩ : S43), (⟨0, (⟨#[98]⟩ : ByteArray), (([(⟨0, (⟨#[98]⟩ : ByteArray), (⟨0, 0, (⟨#[]⟩ : ByteArray), ([] : List (S34))⟩ : S34)⟩ : S40), (⟨9, (⟨#[]⟩ : ByteArray), (⟨0, 0, (⟨#[]⟩ : ByteArray), ([] : List (S34))⟩ : S34)⟩ : S40)] : List (S40)))⟩ : S43)] : List (S43)) : List (S43))).bind fun y115 => ((rung_Run.f k y115 (([false] : List Bool)) (([(⟨(⟨#[116]⟩ : ByteArray), 80⟩ : S69)] : List (S69)))).bind fun bt124 => ((rung_Check.f k y115 (([(⟨#[116]⟩ : ByteArray)] : List ByteArray)) (([(⟨#[104, 101, 97, 116]⟩ : ByteArray)] : List ByteArray))).bind fun t139 => ((rung_Check.f k y115 (([(⟨#[116]⟩ : ByteArray)] : List ByteArray)) ([] : List ByteArray)).bind fun t143 => (if t139 = 0 then (if t143 = 21 then (if (bt124.1.length : Int) = 1 then (if 0 < (bt124.1.length : Int) then (if rdOf false bt124.1 0 = true then (if (bt124.2.1.length : Int) = 1 then (if 0 < (bt124.2.1.length : Int) then (if (rdOf ByteArray.empty bt124.2.1 0).toList = ([104, 101, 97, 116] : List UInt8) then (some ((bt124.2.2.length : Int) == 0)) else (some false)) else (none)) else (some false)) else (some false)) else (none)) else (some false)) else (some false)) else (some false)))))) = some r := H
 obtain ⟨y109, hy109⟩ : ∃ y_ : List (S40), y_ = (([(⟨t101, t102, (⟨t103, t104, t105, t106⟩ : S34)⟩ : S40)] : List (S40))) := ⟨_, rfl⟩
 replace H : ((some (([(⟨3, (⟨#[104, 101, 97, 116]⟩ : ByteArray), y109⟩ : S43), (⟨0, (⟨#[98]⟩ : ByteArray), (([(⟨0, (⟨#[98]⟩ : ByteArray), (⟨0, 0, (⟨#[]⟩ : ByteArray), ([] : List (S34))⟩ : S34)⟩ : S40), (⟨9, (⟨#[]⟩ : ByteArray), (⟨0, 0, (⟨#[]⟩ : ByteArray), ([] : List (S34))⟩ : S34)⟩ : S40)] : List (S40)))⟩ : S43)] : List (S43)) : List (S43))).bind fun y115 => ((rung_Run.f k y115 (([false] : List Bool)) (([(⟨(⟨#[116]⟩ : ByteArray), 80⟩ : S69)] : List (S69)))).bind fun bt124 => ((rung_Check.f k y115 (([(⟨#[116]⟩ : ByteArray)] : List ByteArray)) (([(⟨#[104, 101, 97, 116]⟩ : ByteArray)] : List ByteArray))).bind fun t139 => ((rung_Check.f k y115 (([(⟨#[116]⟩ : ByteArray)] : List ByteArray)) ([] : List ByteArray)).bind fun t143 => (if t139 = 0 then (if t143 = 21 then (if (bt124.1.length : Int) = 1 then (if 0 < (bt124.1.length : Int) then (if rdOf false bt124.1 0 = true then (if (bt124.2.1.length : Int) = 1 then (if 0 < (bt124.2.1.length : Int) then (if (rdOf ByteArray.empty bt124.2.1 0).toList = ([104, 101, 97, 116] : List UInt8) then (some ((bt124.2.2.length : Int) == 0)) else (some false)) else (none)) else (some false)) else (some false)) else (none)) else (some false)) else (some false)) else (some false)))))) = some r := by first | (rw [hy109]; with_reducible exact H) | (have H2_ := (Option.bind_some _ _).symm.trans H; rw [hy109]; with_reducible exact H2_) | (have H2_ := (Option.bind_some _ _).symm.trans H; with_reducible exact H2_) | with_reducible exact H | (rw [hy109]; exact H) | exact H
 have Ny109 := Aside0.mk hy109
 clear hy109
 obtain ⟨y112, hy112⟩ : ∃ y_ : List (S40), y_ = (([(⟨0, (⟨#[98]⟩ : ByteArray), (⟨0, 0, (⟨#[]⟩ : ByteArray), ([] : List (S34))⟩ : S34)⟩ : S40), (⟨9, (⟨#[]⟩ : ByteArray), (⟨0, 0, (⟨#[]⟩ : ByteArray), ([] : List (S34))⟩ : S34)⟩ : S40)] : List (S40))) := ⟨_, rfl⟩
 replace H : ((some (([(⟨3, (⟨#[104, 101, 97, 116]⟩ : ByteArray), y109⟩ : S43), (⟨0, (⟨#[98]⟩ : ByteArray), y112⟩ : S43)] : List (S43)) : List (S43))).bind fun y115 => ((rung_Run.f k y115 (([false] : List Bool)) (([(⟨(⟨#[116]⟩ : ByteArray), 80⟩ : S69)] : List (S69)))).bind fun bt124 => ((rung_Check.f k y115 (([(⟨#[116]⟩ : ByteArray)] : List ByteArray)) (([(⟨#[104, 101, 97, 116]⟩ : ByteArray)] : List ByteArray))).bind fun t139 => ((rung_Check.f k y115 (([(⟨#[116]⟩ : ByteArray)] : List ByteArray)) ([] : List ByteArray)).bind fun t143 => (if t139 = 0 then (if t143 = 21 then (if (bt124.1.length : Int) = 1 then (if 0 < (bt124.1.length : Int) then (if rdOf false bt124.1 0 = true then (if (bt124.2.1.length : Int) = 1 then (if 0 < (bt124.2.1.length : Int) then (if (rdOf ByteArray.empty bt124.2.1 0).toList = ([104, 101, 97, 116] : List UInt8) then (some ((bt124.2.2.length : Int) == 0)) else (some false)) else (none)) else (some false)) else (some false)) else (none)) else (some false)) else (some false)) else (some false)))))) = some r := by first | (rw [hy112]; with_reducible exact H) | (have H2_ := (Option.bind_some _ _).symm.trans H; rw [hy112]; with_reducible exact H2_) | (have H2_ := (Option.bind_some _ _).symm.trans H; with_reducible exact H2_) | with_reducible exact H | (rw [hy112]; exact H) | exact H
 have Ny112 := Aside0.mk hy112
 clear hy112
 obtain ⟨y115, hy115⟩ : ∃ y_ : List (S43), y_ = (([(⟨3, (⟨#[104, 101, 97, 116]⟩ : ByteArray), y109⟩ : S43), (⟨0, (⟨#[98]⟩ : ByteArray), y112⟩ : S43)] : List (S43))) := ⟨_, rfl⟩
 replace H : ((rung_Run.f k y115 (([false] : List Bool)) (([(⟨(⟨#[116]⟩ : ByteArray), 80⟩ : S69)] : List (S69)))).bind fun bt124 => ((rung_Check.f k y115 (([(⟨#[116]⟩ : ByteArray)] : List ByteArray)) (([(⟨#[104, 101, 97, 116]⟩ : ByteArray)] : List ByteArray))).bind fun t139 => ((rung_Check.f k y115 (([(⟨#[116]⟩ : ByteArray)] : List ByteArray)) ([] : List ByteArray)).bind fun t143 => (if t139 = 0 then (if t143 = 21 then (if (bt124.1.length : Int) = 1 then (if 0 < (bt124.1.length : Int) then (if rdOf false bt124.1 0 = true then (if (bt124.2.1.length : Int) = 1 then (if 0 < (bt124.2.1.length : Int) then (if (rdOf ByteArray.empty bt124.2.1 0).toList = ([104, 101, 97, 116] : List UInt8) then (some ((bt124.2.2.length : Int) == 0)) else (some false)) else (none)) else (some false)) else (some false)) else (none)) else (some false)) else (some false)) else (some false))))) = some r := by first | (rw [hy115]; with_reducible exact H) | (have H2_ := (Option.bind_some _ _).symm.trans H; rw [hy115]; with_reducible exact H2_) | (have H2_ := (Option.bind_some _ _).symm.trans H; with_reducible exact H2_) | with_reducible exact H | (rw [hy115]; exact H) | exact H
 have Ny115 := Aside0.mk hy115
 clear hy115
 obtain ⟨y118, hy118⟩ : ∃ y_ : List Bool, y_ = (([false] : List Bool)) := ⟨_, rfl⟩
 replace H : ((rung_Run.f k y115 y118 (([(⟨(⟨#[116]⟩ : ByteArray), 80⟩ : S69)] : List (S69)))).bind fun bt124 => ((rung_Check.f k y115 (([(⟨#[116]⟩ : ByteArray)] : List ByteArray)) (([(⟨#[104, 101, 97, 116]⟩ : ByteArray)] : List ByteArray))).bind fun t139 => ((rung_Check.f k y115 (([(⟨#[116]⟩ : ByteArray)] : List ByteArray)) ([] : List ByteArray)).bind fun t143 => (if t139 = 0 then (if t143 = 21 then (if (bt124.1.length : Int) = 1 then (if 0 < (bt124.1.length : Int) then (if rdOf false bt124.1 0 = true then (if (bt124.2.1.length : Int) = 1 then (if 0 < (bt124.2.1.length : Int) then (if (rdOf ByteArray.empty bt124.2.1 0).toList = ([104, 101, 97, 116] : List UInt8) then (some ((bt124.2.2.length : Int) == 0)) else (some false)) else (none)) else (some false)) else (some false)) else (none)) else (some false)) else (some false)) else (some false))))) = some r := by first | (rw [hy118]; with_reducible exact H) | (have H2_ := (Option.bind_some _ _).symm.trans H; rw [hy118]; with_reducible exact H2_) | (have H2_ := (Option.bind_some _ _).symm.trans H; with_reducible exact H2_) | with_reducible exact H | (rw [hy118]; exact H) | exact H
 have Ny118 := Aside0.mk hy118
 clear hy118
 obtain ⟨y121, hy121⟩ : ∃ y_ : List (S69), y_ = (([(⟨(⟨#[116]⟩ : ByteArray), 80⟩ : S69)] : List (S69))) := ⟨_, rfl⟩
 replace H : ((rung_Run.f k y115 y118 y121).bind fun bt124 => ((rung_Check.f k y115 (([(⟨#[116]⟩ : ByteArray)] : List ByteArray)) (([(⟨#[104, 101, 97, 116]⟩ : ByteArray)] : List ByteArray))).bind fun t139 => ((rung_Check.f k y115 (([(⟨#[116]⟩ : ByteArray)] : List ByteArray)) ([] : List ByteArray)).bind fun t143 => (if t139 = 0 then (if t143 = 21 then (if (bt124.1.length : Int) = 1 then (if 0 < (bt124.1.length : Int) then (if rdOf false bt124.1 0 = true then (if (bt124.2.1.length : Int) = 1 then (if 0 < (bt124.2.1.length : Int) then (if (rdOf ByteArray.empty bt124.2.1 0).toList = ([104, 101, 97, 116] : List UInt8) then (some ((bt124.2.2.length : Int) == 0)) else (some false)) else (none)) else (some false)) else (some false)) else (none)) else (some false)) else (some false)) else (some false))))) = some r := by first | (rw [hy121]; with_reducible exact H) | (have H2_ := (Option.bind_some _ _).symm.trans H; rw [hy121]; with_reducible exact H2_) | (have H2_ := (Option.bind_some _ _).symm.trans H; with_reducible exact H2_) | with_reducible exact H | (rw [hy121]; exact H) | exact H
 have Ny121 := Aside0.mk hy121
 clear hy121
 replace H := qi H
 obtain ⟨⟨t124, t125, t126⟩, A2, H⟩ := H
 replace H : ((rung_Check.f k y115 (([(⟨#[116]⟩ : ByteArray)] : List ByteArray)) (([(⟨#[104, 101, 97, 116]⟩ : ByteArray)] : List ByteArray))).bind fun t139 => ((rung_Check.f k y115 (([(⟨#[116]⟩ : ByteArray)] : List ByteArray)) ([] : List ByteArray)).bind fun t143 => (if t139 = 0 then (if t143 = 21 then (if (t124.length : Int) = 1 then (if 0 < (t124.length : Int) then (if rdOf false t124 0 = true then (if (t125.length : Int) = 1 then (if 0 < (t125.length : Int) then (if (rdOf ByteArray.empty t125 0).toList = ([104, 101, 97, 116] : List UInt8) then (some ((t126.length : Int) == 0)) else (some false)) else (none)) else (some false)) else (some false)) else (none)) else (some false)) else (some false)) else (some false)))) = some r := H
 obtain ⟨y133, hy133⟩ : ∃ y_ : List ByteArray, y_ = (([(⟨#[116]⟩ : ByteArray)] : List ByteArray)) := ⟨_, rfl⟩
 replace H : ((rung_Check.f k y115 y133 (([(⟨#[104, 101, 97, 116]⟩ : ByteArray)] : List ByteArray))).bind fun t139 => ((rung_Check.f k y115 (([(⟨#[116]⟩ : ByteArray)] : List ByteArray)) ([] : List ByteArray)).bind fun t143 => (if t139 = 0 then (if t143 = 21 then (if (t124.length : Int) = 1 then (if 0 < (t124.length : Int) then (if rdOf false t124 0 = true then (if (t125.length : Int) = 1 then (if 0 < (t125.length : Int) then (if (rdOf ByteArray.empty t125 0).toList = ([104, 101, 97, 116] : List UInt8) then (some ((t126.length : Int) == 0)) else (some false)) else (none)) else (some false)) else (some false)) else (none)) else (some false)) else (some false)) else (some false)))) = some r := by first | (rw [hy133]; with_reducible exact H) | (have H2_ := (Option.bind_some _ _).symm.trans H; rw [hy133]; with_reducible exact H2_) | (have H2_ := (Option.bind_some _ _).symm.trans H; with_reducible exact H2_) | with_reducible exact H | (rw [hy133]; exact H) | exact H
 have Ny133 := Aside0.mk hy133
 clear hy133
 obtain ⟨y136, hy136⟩ : ∃ y_ : List ByteArray, y_ = (([(⟨#[104, 101, 97, 116]⟩ : ByteArray)] : List ByteArray)) := ⟨_, rfl⟩
 replace H : ((rung_Check.f k y115 y133 y136).bind fun t139 => ((rung_Check.f k y115 (([(⟨#[116]⟩ : ByteArray)] : List ByteArray)) ([] : List ByteArray)).bind fun t143 => (if t139 = 0 then (if t143 = 21 then (if (t124.length : Int) = 1 then (if 0 < (t124.length : Int) then (if rdOf false t124 0 = true then (if (t125.length : Int) = 1 then (if 0 < (t125.length : Int) then (if (rdOf ByteArray.empty t125 0).toList = ([104, 101, 97, 116] : List UInt8) then (some ((t126.length : Int) == 0)) else (some false)) else (none)) else (some false)) else (some false)) else (none)) else (some false)) else (some false)) else (some false)))) = some r := by first | (rw [hy136]; with_reducible exact H) | (have H2_ := (Option.bind_some _ _).symm.trans H; rw [hy136]; with_reducible exact H2_) | (have H2_ := (Option.bind_some _ _).symm.trans H; with_reducible exact H2_) | with_reducible exact H | (rw [hy136]; exact H) | exact H
 have Ny136 := Aside0.mk hy136
 clear hy136
 replace H := qi H
 obtain ⟨t139, A3, H⟩ := H
 obtain ⟨y140, hy140⟩ : ∃ y_ : List ByteArray, y_ = (([(⟨#[116]⟩ : ByteArray)] : List ByteArray)) := ⟨_, rfl⟩
 replace H : ((rung_Check.f k y115 y140 ([] : List ByteArray)).bind fun t143 => (if t139 = 0 then (if t143 = 21 then (if (t124.length : Int) = 1 then (if 0 < (t124.length : Int) then (if rdOf false t124 0 = true then (if (t125.length : Int) = 1 then (if 0 < (t125.length : Int) then (if (rdOf ByteArray.empty t125 0).toList = ([104, 101, 97, 116] : List UInt8) then (some ((t126.length : Int) == 0)) else (some false)) else (none)) else (some false)) else (some false)) else (none)) else (some false)) else (some false)) else (some false))) = some r := by first | (rw [hy140]; with_reducible exact H) | (have H2_ := (Option.bind_some _ _).symm.trans H; rw [hy140]; with_reducible exact H2_) | (have H2_ := (Option.bind_some _ _).symm.trans H; with_reducible exact H2_) | with_reducible exact H | (rw [hy140]; exact H) | exact H
 have Ny140 := Aside0.mk hy140
 clear hy140
 replace H := qi H
 obtain ⟨t143, A4, H⟩ := H
 by_cases c5 : t139 = 0
 ·rw [if_pos c5] at H
  obtain ⟨c5b0, c5b1⟩ := qe c5
  clear c5
  by_cases c6 : t143 = 21
  ·rw [if_pos c6] at H
   obtain ⟨c6b0, c6b1⟩ := qe c6
   clear c6
   by_cases c7 : (t124.length : Int) = 1
   ·rw [if_pos c7] at H
    obtain ⟨c7b0, c7b1⟩ := qe c7
    clear c7
    by_cases c8 : 0 < (t124.length : Int)
    ·rw [if_pos c8] at H
     have c8b0 : decide (0 < (t124.length : Int)) = true := decide_eq_true c8
     have c8b1 : decide (0 < t124.length) = true := decide_eq_true (by omega)
     clear c8
     obtain ⟨bq9, hbq9⟩ : ∃ b_ : Bool, b_ = (rdOf false t124 0) := ⟨_, rfl⟩
     replace H : (if bq9 = true then (if (t125.length : Int) = 1 then (if 0 < (t125.length : Int) then (if (rdOf ByteArray.empty t125 0).toList = ([104, 101, 97, 116] : List UInt8) then (some ((t126.length : Int) == 0)) else (some false)) else (none)) else (some false)) else (some false)) = some r := by rw [← hbq9] at H; exact H
     have Nbq9 := Aside0.mk hbq9
     clear hbq9
     by_cases c10 : bq9 = true
     ·subst c10
      rw [if_pos rfl] at H
      by_cases c11 : (t125.length : Int) = 1
      ·rw [if_pos c11] at H
       obtain ⟨c11b0, c11b1⟩ := qe c11
       clear c11
       by_cases c12 : 0 < (t125.length : Int)
       ·rw [if_pos c12] at H
        have c12b0 : decide (0 < (t125.length : Int)) = true := decide_eq_true c12
        have c12b1 : decide (0 < t125.length) = true := decide_eq_true (by omega)
        clear c12
        by_cases c13 : (rdOf ByteArray.empty t125 0).toList = ([104, 101, 97, 116] : List UInt8)
        ·rw [if_pos c13] at H
         obtain ⟨c13b0, c13b1⟩ := qe c13
         clear c13
         obtain rfl := Option.some.inj H
         go_enter Tryd.func19, Tryd.ntmps19
         go_wp2_with (first | ((with_reducible refine gate_callee (f := 57) rfl ?_); refine goesL_ (some 7) rfl rfl Tryd.func57 (by kernel_rfl) rfl #[.string (⟨#[116]⟩ : ByteArray), .int .i64 70] rfl qm ?_; (with_reducible refine (malthouselaw09_below.calls (⟨#[116]⟩ : ByteArray) 70 t101 t102 t103 t104 t105 t106 _ A1.out).mono ?_); rintro e w14 ⟨v107, rfl, ho0, hb⟩; refine ⟨_, rfl, ?_⟩; have n0_ := Aside0.mk (Kd.N_lower (Kd.N_mono (ok' := fun k_ => True) (Kd.R_N (Kd.R_bound ho0)) (fun k_ hk_ => trivial)) (below_size qb)); have n1_ := qs hb; clear HB; have HO108 := n0_; have HB := n1_; clear n0_ n1_; (try clear hb); (try clear ho0); obtain ⟨Ao15, co15, eo15⟩ := Kd.N_slice HO108.out; subst eo15) | ((with_reducible refine gate_dst (N := 8) rfl ?_); (try (refine gate_guard (by rfl) ?_; dsimp only)); refine Kd.N_lit k40 _ 40 ?hg (N' := 8) ?hd (xs := ([(⟨t101, t102, (⟨t103, t104, t105, t106⟩ : S34)⟩ : S40)] : List (S40))) (inner := [.int .i64 t101, .string t102, .int .i64 t103, .int .i64 t104, .string t105, .slice Ao15 t106.length co15]) (ok := (fun _ => True)) (okp := (fun _ => True)) ?hr ?hp (fun _ hk => hk) ((show ∀ k_, w14.heap.size ≤ k_ → (fun _ => True) k_ from fun k_ hk => trivial) _ (Nat.le_refl _)) (Below.refl _ _) (Nat.le_refl _) (by simp) ?_; (case hd => rfl); (case hg => rfl); (case hr => first | (go_simp; done) | (go_simp; rfl)); (case hp => exact (Reps.c6 (show Kd.FK k40 _ _ (⟨t101, t102, (⟨t103, t104, t105, t106⟩ : S34)⟩ : S40) [.int .i64 t101, .string t102, .int .i64 t103, .int .i64 t104, .string t105, .slice Ao15 t106.length co15] from (k40_mkF _ _ (⟨t101, t102, (⟨t103, t104, t105, t106⟩ : S34)⟩ : S40) (Kd.N_reads' (Kd.N_mono (ok' := (fun _ => True)) (HO108.out) (fun k_ hk => trivial))).2.1 (Kd.N_F (Kd.N_mono (ok' := (fun _ => True)) (HO108.out) (fun k_ hk => trivial))))) (Reps.none _ _))); intro v110 w16 ho17 hb hg_ hnew_; clear hg_ hnew_; (first | rw [← Ny109.out] at ho17 | (simp only [Int.reduceToNat] at ho17; rw [← Ny109.out] at ho17)); have n0_ := Aside0.mk (Kd.N_lower ho17 (below_size qb)); have n1_ := qs hb; clear HB; clear HO108; have HO111 := n0_; have HB := n1_; clear n0_ n1_; clear hb ho17; obtain ⟨Ao18, co18, eo18⟩ := Kd.N_slice HO111.out; subst eo18) | ((with_reducible refine gate_dst (N := 12) rfl ?_); (try (refine gate_guard (by rfl) ?_; dsimp only)); refine Kd.N_lit k40 _ 40 ?hg (N' := 12) ?hd (xs := ([(⟨0, (⟨#[98]⟩ : ByteArray), (⟨0, 0, (⟨#[]⟩ : ByteArray), ([] : List (S34))⟩ : S34)⟩ : S40), (⟨9, (⟨#[]⟩ : ByteArray), (⟨0, 0, (⟨#[]⟩ : ByteArray), ([] : List (S34))⟩ : S34)⟩ : S40)] : List (S40))) (inner := [.int .i64 0, .string (⟨#[98]⟩ : ByteArray), .int .i64 0, .int .i64 0, .string (⟨#[]⟩ : ByteArray), .slice none 0 0, .int .i64 9, .string (⟨#[]⟩ : ByteArray), .int .i64 0, .int .i64 0, .string (⟨#[]⟩ : ByteArray), .slice none 0 0]) (ok := (fun k_ => some k_ ≠ (.slice Ao18 y109.length co18 : Value).ownBlock)) (okp := (fun k_ => some k_ ≠ (.slice Ao18 y109.length co18 : Value).ownBlock)) ?hr ?hp (fun _ hk => hk) ((show ∀ k_, w16.heap.size ≤ k_ → (fun k_ => some k_ ≠ (.slice Ao18 y109.length co18 : Value).ownBlock) k_ from fun k_ hk => Kd.fresh' (Kd.N_lt (by (with_reducible repeat (first | apply Kd.N_alloc | apply Kd.N_drewN | apply Kd.N_drew)); exact HO111.out)) k_ hk) _ (Nat.le_refl _)) (Below.refl _ _) (Nat.le_refl _) (by simp) ?_; (case hd => rfl); (case hg => rfl); (case hr => first | (go_simp; done) | (go_simp; rfl)); (case hp => exact (Reps.c6 (show Kd.FK k40 _ _ (⟨0, (⟨#[98]⟩ : ByteArray), (⟨0, 0, (⟨#[]⟩ : ByteArray), ([] : List (S34))⟩ : S34)⟩ : S40) [.int .i64 0, .string (⟨#[98]⟩ : ByteArray), .int .i64 0, .int .i64 0, .string (⟨#[]⟩ : ByteArray), .slice none 0 0] from (k40_mkF _ _ (⟨0, (⟨#[98]⟩ : ByteArray), (⟨0, 0, (⟨#[]⟩ : ByteArray), ([] : List (S34))⟩ : S34)⟩ : S40) (Nat.le_refl _) (Kd.F_nil _ _ _))) (Reps.c6 (show Kd.FK k40 _ _ (⟨9, (⟨#[]⟩ : ByteArray), (⟨0, 0, (⟨#[]⟩ : ByteArray), ([] : List (S34))⟩ : S34)⟩ : S40) [.int .i64 9, .string (⟨#[]⟩ : ByteArray), .int .i64 0, .int .i64 0, .string (⟨#[]⟩ : ByteArray), .slice none 0 0] from (k40_mkF _ _ (⟨9, (⟨#[]⟩ : ByteArray), (⟨0, 0, (⟨#[]⟩ : ByteArray), ([] : List (S34))⟩ : S34)⟩ : S40) (Nat.le_refl _) (Kd.F_nil _ _ _))) (Reps.none _ _)))); intro v113 w19 ho20 hb hg_ hnew_; clear hg_ hnew_; (first | rw [← Ny112.out] at ho20 | (simp only [Int.reduceToNat] at ho20; rw [← Ny112.out] at ho20)); have n0_ := Aside0.mk (Kd.N_elder' (by (with_reducible repeat (first | apply Kd.N_alloc | apply Kd.N_drewN | apply Kd.N_drew)); exact HO111.out) (Kd.N_base ho20) hb); have n1_ := Aside0.mk (Kd.N_lower ho20 (below_size qb)); have n2_ := qs hb; clear HO111; clear HB; have HO111 := n0_; have HO114 := n1_; have HB := n2_; clear n0_ n1_ n2_; clear hb ho20; obtain ⟨Ao21, co21, eo21⟩ := Kd.N_slice HO114.out; subst eo21) | ((with_reducible refine gate_dst (N := 14) rfl ?_); (try (refine gate_guard (by rfl) ?_; dsimp only)); refine Kd.N_lit k43 _ 43 ?hg (N' := 14) ?hd (xs := ([(⟨3, (⟨#[104, 101, 97, 116]⟩ : ByteArray), y109⟩ : S43), (⟨0, (⟨#[98]⟩ : ByteArray), y112⟩ : S43)] : List (S43))) (inner := [.int .i64 3, .string (⟨#[104, 101, 97, 116]⟩ : ByteArray), .slice Ao18 y109.length co18, .int .i64 0, .string (⟨#[98]⟩ : ByteArray), .slice Ao21 y112.length co21]) (ok := (fun _ => True)) (okp := (fun _ => True)) ?hr ?hp (fun _ hk => hk) ((show ∀ k_, w19.heap.size ≤ k_ → (fun _ => True) k_ from fun k_ hk => trivial) _ (Nat.le_refl _)) (Below.refl _ _) (Nat.le_refl _) (by simp) ?_; (case hd => rfl); (case hg => rfl); (case hr => first | (go_simp; done) | (go_simp; rfl)); (case hp => exact (Reps.c3 (show Kd.FK k43 _ _ (⟨3, (⟨#[104, 101, 97, 116]⟩ : ByteArray), y109⟩ : S43) [.int .i64 3, .string (⟨#[104, 101, 97, 116]⟩ : ByteArray), .slice Ao18 y109.length co18] from (k43_mkF _ _ (⟨3, (⟨#[104, 101, 97, 116]⟩ : ByteArray), y109⟩ : S43) (Kd.N_reads' (Kd.N_mono (ok' := (fun _ => True)) (HO111.out) (fun k_ hk => trivial))).2.1 (Kd.N_F (Kd.N_mono (ok' := (fun _ => True)) (HO111.out) (fun k_ hk => trivial))))) (Reps.c3 (show Kd.FK k43 _ _ (⟨0, (⟨#[98]⟩ : ByteArray), y112⟩ : S43) [.int .i64 0, .string (⟨#[98]⟩ : ByteArray), .slice Ao21 y112.length co21] from (k43_mkF _ _ (⟨0, (⟨#[98]⟩ : ByteArray), y112⟩ : S43) (Kd.N_reads' (Kd.N_mono (ok' := (fun _ => True)) (HO114.out) (fun k_ hk => trivial))).2.1 (Kd.N_F (Kd.N_mono (ok' := (fun _ => True)) (HO114.out) (fun k_ hk => trivial))))) (Reps.none _ _)))); intro v116 w22 ho23 hb hg_ hnew_; clear hg_ hnew_; (first | rw [← Ny115.out] at ho23 | (simp only [Int.reduceToNat] at ho23; rw [← Ny115.out] at ho23)); have n0_ := Aside0.mk (Kd.N_lower ho23 (below_size qb)); have n1_ := qs hb; clear HB; clear HO111; clear HO114; have HO117 := n0_; have HB := n1_; clear n0_ n1_; clear hb ho23) | ((with_reducible refine gate_dst (N := 17) rfl ?_); (try (refine gate_guard (by rfl) ?_; dsimp only)); refine Kd.R_lit Kd.bool _ 4 ?hg (N := 17) ?hd (xs := ([false] : List Bool)) (inner := [.bool false]) (ok := fun _ => True) (okp := fun _ => True) ?hr ?hp (fun _ hk => hk) trivial (Below.refl _ _) (Nat.le_refl _) (by simp) ?_; (case hd => rfl); (case hg => rfl); (case hr => first | (go_simp; done) | (go_simp; rfl)); (case hp => exact (Reps.one (show Kd.M Kd.bool _ _ _ false [.bool false] from rfl) (Reps.none _ _))); intro v119 w24 ho25 hb hg_ hnew_; clear hg_ hnew_; (first | rw [← Ny118.out] at ho25 | (simp only [Int.reduceToNat] at ho25; rw [← Ny118.out] at ho25)); have n0_ := Aside0.mk (Kd.N_elder' (by (with_reducible repeat (first | apply Kd.N_alloc | apply Kd.N_drewN | apply Kd.N_drew)); exact HO117.out) (Kd.R_base ho25) hb); have n1_ := Aside0.mk (Kd.R_lower ho25 (below_size qb)); have n2_ := qs hb; clear HO117; clear HB; have HO117 := n0_; have HO120 := n1_; have HB := n2_; clear n0_ n1_ n2_; clear hb ho25) | ((with_reducible refine gate_dst (N := 19) rfl ?_); (try (refine gate_guard (by rfl) ?_; dsimp only)); refine Kd.R_lit k69 _ 69 ?hg (N := 19) ?hd (xs := ([(⟨(⟨#[116]⟩ : ByteArray), 80⟩ : S69)] : List (S69))) (inner := [.string (⟨#[116]⟩ : ByteArray), .int .i64 80]) (ok := fun _ => True) (okp := fun _ => True) ?hr ?hp (fun _ hk => hk) trivial (Below.refl _ _) (Nat.le_refl _) (by simp) ?_; (case hd => rfl); (case hg => rfl); (case hr => first | (go_simp; done) | (go_simp; rfl)); (case hp => exact (Reps.c2 (show Kd.M k69 _ _ _ (⟨(⟨#[116]⟩ : ByteArray), 80⟩ : S69) [.string (⟨#[116]⟩ : ByteArray), .int .i64 80] from (k69_mkM _ _ _ (⟨(⟨#[116]⟩ : ByteArray), 80⟩ : S69) )) (Reps.none _ _))); intro v122 w26 ho27 hb hg_ hnew_; clear hg_ hnew_; (first | rw [← Ny121.out] at ho27 | (simp only [Int.reduceToNat] at ho27; rw [← Ny121.out] at ho27)); have n0_ := Aside0.mk (Kd.N_elder' (by (with_reducible repeat (first | apply Kd.N_alloc | apply Kd.N_drewN | apply Kd.N_drew)); exact HO117.out) (Kd.R_base ho27) hb); have n1_ := Aside0.mk (Kd.R_below (by (with_reducible repeat (first | apply Kd.R_alloc | apply Kd.R_drewN | apply Kd.R_drew)); exact HO120.out) hb); have n2_ := Aside0.mk (Kd.R_lower ho27 (below_size qb)); have n3_ := qs hb; clear HO117; clear HO120; clear HB; have HO117 := n0_; have HO120 := n1_; have HO123 := n2_; have HB := n3_; clear n0_ n1_ n2_ n3_; clear hb ho27; obtain ⟨Ao28, co28, eo28⟩ := Kd.N_slice HO117.out; subst eo28; obtain ⟨Ao29, co29, eo29⟩ := Kd.R_slice HO120.out; subst eo29; obtain ⟨Ao30, co30, eo30⟩ := Kd.R_slice HO123.out; subst eo30) | ((with_reducible refine gate_callee (f := 31) rfl ?_); refine goesL_ (some 20) rfl rfl Tryd.func31 (by kernel_rfl) rfl #[.slice Ao28 y115.length co28, .slice Ao29 y118.length co29, .slice Ao30 y121.length co30] rfl qm ?_; (with_reducible refine (rung_Run.calls k _ _ y115 _ _ y118 _ _ y121 t124 t125 t126 _ ?side1 ?side2 ?side3 ?side4 ?side5 ?side6 A2.out (by first | exact HT0.out | exact UT.below HT0.out qb)).mono ?_); (case side1 => repeat (first | exact (Kd.N_reads' HO117.out).2.2 | (with_reducible refine Kd.C_alloc ?_ _) | (with_reducible refine Kd.C_drewN ?_ _) | (with_reducible refine Kd.C_drew ?_))); (case side2 => exact (Kd.N_reads' HO117.out).2.1); (case side3 => repeat (first | exact (Kd.R_reads' HO120.out).2.2 | (with_reducible refine Kd.C_alloc ?_ _) | (with_reducible refine Kd.C_drewN ?_ _) | (with_reducible refine Kd.C_drew ?_))); (case side4 => exact (Kd.R_reads' HO120.out).2.1); (case side5 => repeat (first | exact (Kd.R_reads' HO123.out).2.2 | (with_reducible refine Kd.C_alloc ?_ _) | (with_reducible refine Kd.C_drewN ?_ _) | (with_reducible refine Kd.C_drew ?_))); (case side6 => exact (Kd.R_reads' HO123.out).2.1); rintro e w31 ⟨v127, v129, v131, rfl, ho0, ho1, ho2, hb⟩; refine ⟨_, rfl, ?_⟩; have n0_ := Aside0.mk (Kd.N_mono (Kd.N_told (Kd.N_told (Kd.N_told (Kd.N_old (by (with_reducible repeat (first | apply Kd.N_alloc | apply Kd.N_drewN | apply Kd.N_drew)); exact HO117.out) hb) (Kd.R_base ho0)) (Kd.R_base ho1)) (Kd.R_base ho2)) (fun _ h_ => h_.1)); have n1_ := Aside0.mk (Kd.R_elder' (by (with_reducible repeat (first | apply Kd.R_alloc | apply Kd.R_drewN | apply Kd.R_drew)); exact HO120.out) (Kd.R_base ho0) hb); have n2_ := Aside0.mk (Kd.R_below (by (with_reducible repeat (first | apply Kd.R_alloc | apply Kd.R_drewN | apply Kd.R_drew)); exact HO123.out) hb); have n3_ := Aside0.mk (Kd.R_lower (Kd.R_new' ho0 (Kd.R_lt (by (with_reducible repeat (first | apply Kd.R_alloc | apply Kd.R_drewN | apply Kd.R_drew)); exact HO120.out))) (below_size qb)); have n4_ := Aside0.mk (Kd.R_lower ho1 (below_size qb)); have n5_ := Aside0.mk (Kd.R_lower ho2 (below_size qb)); have n6_ := qs hb; clear HO117; clear HO120; clear HO123; clear HB; have HO117 := n0_; have HO120 := n1_; have HO123 := n2_; have HO128 := n3_; have HO130 := n4_; have HO132 := n5_; have HB := n6_; clear n0_ n1_ n2_ n3_ n4_ n5_ n6_; (try clear hb); (try clear ho0); (try clear ho1); (try clear ho2)) | ((with_reducible refine gate_dst (N := 25) rfl ?_); (try (refine gate_guard (by rfl) ?_; dsimp only)); refine Kd.R_lit Kd.string _ 9 ?hg (N := 25) ?hd (xs := ([(⟨#[116]⟩ : ByteArray)] : List ByteArray)) (inner := [.string (⟨#[116]⟩ : ByteArray)]) (ok := fun _ => True) (okp := fun _ => True) ?hr ?hp (fun _ hk => hk) trivial (Below.refl _ _) (Nat.le_refl _) (by simp) ?_; (case hd => rfl); (case hg => rfl); (case hr => first | (go_simp; done) | (go_simp; rfl)); (case hp => exact (Reps.one (show Kd.M Kd.string _ _ _ (⟨#[116]⟩ : ByteArray) [.string (⟨#[116]⟩ : ByteArray)] from rfl) (Reps.none _ _))); intro v134 w32 ho33 hb hg_ hnew_; clear hg_ hnew_; (first | rw [← Ny133.out] at ho33 | (simp only [Int.reduceToNat] at ho33; rw [← Ny133.out] at ho33)); have n0_ := Aside0.mk (Kd.N_elder' (by (with_reducible repeat (first | apply Kd.N_alloc | apply Kd.N_drewN | apply Kd.N_drew)); exact HO117.out) (Kd.R_base ho33) hb); have n1_ := Aside0.mk (Kd.R_below (by (with_reducible repeat (first | apply Kd.R_alloc | apply Kd.R_drewN | apply Kd.R_drew)); exact HO120.out) hb); have n2_ := Aside0.mk (Kd.R_below (by (with_reducible repeat (first | apply Kd.R_alloc | apply Kd.R_drewN | apply Kd.R_drew)); exact HO123.out) hb); have n3_ := Aside0.mk (Kd.R_below (by (with_reducible repeat (first | apply Kd.R_alloc | apply Kd.R_drewN | apply Kd.R_drew)); exact HO128.out) hb); have n4_ := Aside0.mk (Kd.R_elder' (by (with_reducible repeat (first | apply Kd.R_alloc | apply Kd.R_drewN | apply Kd.R_drew)); exact HO130.out) (Kd.R_base ho33) hb); have n5_ := Aside0.mk (Kd.R_elder' (by (with_reducible repeat (first | apply Kd.R_alloc | apply Kd.R_drewN | apply Kd.R_drew)); exact HO132.out) (Kd.R_base ho33) hb); have n6_ := Aside0.mk (Kd.R_lower (Kd.R_new' (Kd.R_new' ho33 (Kd.R_lt (by (with_reducible repeat (first | apply Kd.R_alloc | apply Kd.R_drewN | apply Kd.R_drew)); exact HO130.out))) (Kd.R_lt (by (with_reducible repeat (first | apply Kd.R_alloc | apply Kd.R_drewN | apply Kd.R_drew)); exact HO132.out))) (below_size qb)); have n7_ := qs hb; clear HO117; clear HO120; clear HO123; clear HO128; clear HO130; clear HO132; clear HB; have HO117 := n0_; have HO120 := n1_; have HO123 := n2_; have HO128 := n3_; have HO130 := n4_; have HO132 := n5_; have HO135 := n6_; have HB := n7_; clear n0_ n1_ n2_ n3_ n4_ n5_ n6_ n7_; clear hb ho33) | ((with_reducible refine gate_dst (N := 26) rfl ?_); (try (refine gate_guard (by rfl) ?_; dsimp only)); refine Kd.R_lit Kd.string _ 9 ?hg (N := 26) ?hd (xs := ([(⟨#[104, 101, 97, 116]⟩ : ByteArray)] : List ByteArray)) (inner := [.string (⟨#[104, 101, 97, 116]⟩ : ByteArray)]) (ok := fun _ => True) (okp := fun _ => True) ?hr ?hp (fun _ hk => hk) trivial (Below.refl _ _) (Nat.le_refl _) (by simp) ?_; (case hd => rfl); (case hg => rfl); (case hr => first | (go_simp; done) | (go_simp; rfl)); (case hp => exact (Reps.one (show Kd.M Kd.string _ _ _ (⟨#[104, 101, 97, 116]⟩ : ByteArray) [.string (⟨#[104, 101, 97, 116]⟩ : ByteArray)] from rfl) (Reps.none _ _))); intro v137 w34 ho35 hb hg_ hnew_; clear hg_ hnew_; (first | rw [← Ny136.out] at ho35 | (simp only [Int.reduceToNat] at ho35; rw [← Ny136.out] at ho35)); have n0_ := Aside0.mk (Kd.N_elder' (by (with_reducible repeat (first | apply Kd.N_alloc | apply Kd.N_drewN | apply Kd.N_drew)); exact HO117.out) (Kd.R_base ho35) hb); have n1_ := Aside0.mk (Kd.R_below (by (with_reducible repeat (first | apply Kd.R_alloc | apply Kd.R_drewN | apply Kd.R_drew)); exact HO120.out) hb); have n2_ := Aside0.mk (Kd.R_below (by (with_reducible repeat (first | apply Kd.R_alloc | apply Kd.R_drewN | apply Kd.R_drew)); exact HO123.out) hb); have n3_ := Aside0.mk (Kd.R_below (by (with_reducible repeat (first | apply Kd.R_alloc | apply Kd.R_drewN | apply Kd.R_drew)); exact HO128.out) hb); have n4_ := Aside0.mk (Kd.R_elder' (by (with_reducible repeat (first | apply Kd.R_alloc | apply Kd.R_drewN | apply Kd.R_drew)); exact HO130.out) (Kd.R_base ho35) hb); have n5_ := Aside0.mk (Kd.R_elder' (by (with_reducible repeat (first | apply Kd.R_alloc | apply Kd.R_drewN | apply Kd.R_drew)); exact HO132.out) (Kd.R_base ho35) hb); have n6_ := Aside0.mk (Kd.R_elder' (by (with_reducible repeat (first | apply Kd.R_alloc | apply Kd.R_drewN | apply Kd.R_drew)); exact HO135.out) (Kd.R_base ho35) hb); have n7_ := Aside0.mk (Kd.R_lower (Kd.R_new' (Kd.R_new' (Kd.R_new' ho35 (Kd.R_lt (by (with_reducible repeat (first | apply Kd.R_alloc | apply Kd.R_drewN | apply Kd.R_drew)); exact HO130.out))) (Kd.R_lt (by (with_reducible repeat (first | apply Kd.R_alloc | apply Kd.R_drewN | apply Kd.R_drew)); exact HO132.out))) (Kd.R_lt (by (with_reducible repeat (first | apply Kd.R_alloc | apply Kd.R_drewN | apply Kd.R_drew)); exact HO135.out))) (below_size qb)); have n8_ := qs hb; clear HO117; clear HO120; clear HO123; clear HO128; clear HO130; clear HO132; clear HO135; clear HB; have HO117 := n0_; have HO120 := n1_; have HO123 := n2_; have HO128 := n3_; have HO130 := n4_; have HO132 := n5_; have HO135 := n6_; have HO138 := n7_; have HB := n8_; clear n0_ n1_ n2_ n3_ n4_ n5_ n6_ n7_ n8_; clear hb ho35; obtain ⟨Ao36, co36, eo36⟩ := Kd.R_slice HO135.out; subst eo36; obtain ⟨Ao37, co37, eo37⟩ := Kd.R_slice HO138.out; subst eo37) | ((with_reducible refine gate_callee (f := 25) rfl ?_); refine goesL_ (some 27) rfl rfl Tryd.func25 (by kernel_rfl) rfl #[.slice Ao28 y115.length co28, .slice Ao36 y133.length co36, .slice Ao37 y136.length co37] rfl qm ?_; (with_reducible refine (rung_Check.calls k _ _ y115 _ _ y133 _ _ y136 t139 _ ?side1 ?side2 ?side3 ?side4 ?side5 ?side6 A3.out (by first | exact HT0.out | exact UT.below HT0.out qb)).mono ?_); (case side1 => repeat (first | exact (Kd.N_reads' HO117.out).2.2 | (with_reducible refine Kd.C_alloc ?_ _) | (with_reducible refine Kd.C_drewN ?_ _) | (with_reducible refine Kd.C_drew ?_))); (case side2 => exact (Kd.N_reads' HO117.out).2.1); (case side3 => repeat (first | exact (Kd.R_reads' HO135.out).2.2 | (with_reducible refine Kd.C_alloc ?_ _) | (with_reducible refine Kd.C_drewN ?_ _) | (with_reducible refine Kd.C_drew ?_))); (case side4 => exact (Kd.R_reads' HO135.out).2.1); (case side5 => repeat (first | exact (Kd.R_reads' HO138.out).2.2 | (with_reducible refine Kd.C_alloc ?_ _) | (with_reducible refine Kd.C_drewN ?_ _) | (with_reducible refine Kd.C_drew ?_))); (case side6 => exact (Kd.R_reads' HO138.out).2.1); rintro e w38 ⟨rfl, hb⟩; refine ⟨_, rfl, ?_⟩; have n0_ := Aside0.mk (Kd.N_below (by (with_reducible repeat (first | apply Kd.N_alloc | apply Kd.N_drewN | apply Kd.N_drew)); exact HO117.out) hb); have n1_ := Aside0.mk (Kd.R_below (by (with_reducible repeat (first | apply Kd.R_alloc | apply Kd.R_drewN | apply Kd.R_drew)); exact HO120.out) hb); have n2_ := Aside0.mk (Kd.R_below (by (with_reducible repeat (first | apply Kd.R_alloc | apply Kd.R_drewN | apply Kd.R_drew)); exact HO123.out) hb); have n3_ := Aside0.mk (Kd.R_below (by (with_reducible repeat (first | apply Kd.R_alloc | apply Kd.R_drewN | apply Kd.R_drew)); exact HO128.out) hb); have n4_ := Aside0.mk (Kd.R_below (by (with_reducible repeat (first | apply Kd.R_alloc | apply Kd.R_drewN | apply Kd.R_drew)); exact HO130.out) hb); have n5_ := Aside0.mk (Kd.R_below (by (with_reducible repeat (first | apply Kd.R_alloc | apply Kd.R_drewN | apply Kd.R_drew)); exact HO132.out) hb); have n6_ := Aside0.mk (Kd.R_below (by (with_reducible repeat (first | apply Kd.R_alloc | apply Kd.R_drewN | apply Kd.R_drew)); exact HO135.out) hb); have n7_ := Aside0.mk (Kd.R_below (by (with_reducible repeat (first | apply Kd.R_alloc | apply Kd.R_drewN | apply Kd.R_drew)); exact HO138.out) hb); have n8_ := qs hb; clear HO117; clear HO120; clear HO123; clear HO128; clear HO130; clear HO132; clear HO135; clear HO138; clear HB; have HO117 := n0_; have HO120 := n1_; have HO123 := n2_; have HO128 := n3_; have HO130 := n4_; have HO132 := n5_; have HO135 := n6_; have HO138 := n7_; have HB := n8_; clear n0_ n1_ n2_ n3_ n4_ n5_ n6_ n7_ n8_; (try clear hb)) | ((with_reducible refine gate_dst (N := 29) rfl ?_); (try (refine gate_guard (by rfl) ?_; dsimp only)); refine Kd.R_lit Kd.string _ 9 ?hg (N := 29) ?hd (xs := ([(⟨#[116]⟩ : ByteArray)] : List ByteArray)) (inner := [.string (⟨#[116]⟩ : ByteArray)]) (ok := fun _ => True) (okp := fun _ => True) ?hr ?hp (fun _ hk => hk) trivial (Below.refl _ _) (Nat.le_refl _) (by simp) ?_; (case hd => rfl); (case hg => rfl); (case hr => first | (go_simp; done) | (go_simp; rfl)); (case hp => exact (Reps.one (show Kd.M Kd.string _ _ _ (⟨#[116]⟩ : ByteArray) [.string (⟨#[116]⟩ : ByteArray)] from rfl) (Reps.none _ _))); intro v141 w39 ho40 hb hg_ hnew_; clear hg_ hnew_; (first | rw [← Ny140.out] at ho40 | (simp only [Int.reduceToNat] at ho40; rw [← Ny140.out] at ho40)); have n0_ := Aside0.mk (Kd.N_elder' (by (with_reducible repeat (first | apply Kd.N_alloc | apply Kd.N_drewN | apply Kd.N_drew)); exact HO117.out) (Kd.R_base ho40) hb); have n1_ := Aside0.mk (Kd.R_below (by (with_reducible repeat (first | apply Kd.R_alloc | apply Kd.R_drewN | apply Kd.R_drew)); exact HO120.out) hb); have n2_ := Aside0.mk (Kd.R_below (by (with_reducible repeat (first | apply Kd.R_alloc | apply Kd.R_drewN | apply Kd.R_drew)); exact HO123.out) hb); have n3_ := Aside0.mk (Kd.R_below (by (with_reducible repeat (first | apply Kd.R_alloc | apply Kd.R_drewN | apply Kd.R_drew)); exact HO128.out) hb); have n4_ := Aside0.mk (Kd.R_elder' (by (with_reducible repeat (first | apply Kd.R_alloc | apply Kd.R_drewN | apply Kd.R_drew)); exact HO130.out) (Kd.R_base ho40) hb); have n5_ := Aside0.mk (Kd.R_elder' (by (with_reducible repeat (first | apply Kd.R_alloc | apply Kd.R_drewN | apply Kd.R_drew)); exact HO132.out) (Kd.R_base ho40) hb); have n6_ := Aside0.mk (Kd.R_elder' (by (with_reducible repeat (first | apply Kd.R_alloc | apply Kd.R_drewN | apply Kd.R_drew)); exact HO135.out) (Kd.R_base ho40) hb); have n7_ := Aside0.mk (Kd.R_elder' (by (with_reducible repeat (first | apply Kd.R_alloc | apply Kd.R_drewN | apply Kd.R_drew)); exact HO138.out) (Kd.R_base ho40) hb); have n8_ := Aside0.mk (Kd.R_lower (Kd.R_new' (Kd.R_new' (Kd.R_new' (Kd.R_new' ho40 (Kd.R_lt (by (with_reducible repeat (first | apply Kd.R_alloc | apply Kd.R_drewN | apply Kd.R_drew)); exact HO130.out))) (Kd.R_lt (by (with_reducible repeat (first | apply Kd.R_alloc | apply Kd.R_drewN | apply Kd.R_drew)); exact HO132.out))) (Kd.R_lt (by (with_reducible repeat (first | apply Kd.R_alloc | apply Kd.R_drewN | apply Kd.R_drew)); exact HO135.out))) (Kd.R_lt (by (with_reducible repeat (first | apply Kd.R_alloc | apply Kd.R_drewN | apply Kd.R_drew)); exact HO138.out))) (below_size qb)); have n9_ := qs hb; clear HO117; clear HO120; clear HO123; clear HO128; clear HO130; clear HO132; clear HO135; clear HO138; clear HB; have HO117 := n0_; have HO120 := n1_; have HO123 := n2_; have HO128 := n3_; have HO130 := n4_; have HO132 := n5_; have HO135 := n6_; have HO138 := n7_; have HO142 := n8_; have HB := n9_; clear n0_ n1_ n2_ n3_ n4_ n5_ n6_ n7_ n8_ n9_; clear hb ho40; obtain ⟨Ao41, co41, eo41⟩ := Kd.R_slice HO142.out; subst eo41) | ((with_reducible refine gate_callee (f := 25) rfl ?_); refine goesL_ (some 30) rfl rfl Tryd.func25 (by kernel_rfl) rfl #[.slice Ao28 y115.length co28, .slice Ao41 y140.length co41, .slice none 0 0] rfl qm ?_; (refine (rung_Check.calls k _ _ y115 _ _ y140 _ _ ([] : List ByteArray) t143 _ ?side1 ?side2 ?side3 ?side4 ?side5 ?side6 A4.out (by first | exact HT0.out | exact UT.below HT0.out qb)).mono ?_); (case side1 => repeat (first | exact (Kd.N_reads' HO117.out).2.2 | (with_reducible refine Kd.C_alloc ?_ _) | (with_reducible refine Kd.C_drewN ?_ _) | (with_reducible refine Kd.C_drew ?_))); (case side2 => exact (Kd.N_reads' HO117.out).2.1); (case side3 => repeat (first | exact (Kd.R_reads' HO142.out).2.2 | (with_reducible refine Kd.C_alloc ?_ _) | (with_reducible refine Kd.C_drewN ?_ _) | (with_reducible refine Kd.C_drew ?_))); (case side4 => exact (Kd.R_reads' HO142.out).2.1); (case side5 => exact Kd.C_nil _ _); (case side6 => exact Nat.le_refl _); rintro e w42 ⟨rfl, hb⟩; refine ⟨_, rfl, ?_⟩; have n0_ := Aside0.mk (Kd.N_below (by (with_reducible repeat (first | apply Kd.N_alloc | apply Kd.N_drewN | apply Kd.N_drew)); exact HO117.out) hb); have n1_ := Aside0.mk (Kd.R_below (by (with_reducible repeat (first | apply Kd.R_alloc | apply Kd.R_drewN | apply Kd.R_drew)); exact HO120.out) hb); have n2_ := Aside0.mk (Kd.R_below (by (with_reducible repeat (first | apply Kd.R_alloc | apply Kd.R_drewN | apply Kd.R_drew)); exact HO123.out) hb); have n3_ := Aside0.mk (Kd.R_below (by (with_reducible repeat (first | apply Kd.R_alloc | apply Kd.R_drewN | apply Kd.R_drew)); exact HO128.out) hb); have n4_ := Aside0.mk (Kd.R_below (by (with_reducible repeat (first | apply Kd.R_alloc | apply Kd.R_drewN | apply Kd.R_drew)); exact HO130.out) hb); have n5_ := Aside0.mk (Kd.R_below (by (with_reducible repeat (first | apply Kd.R_alloc | apply Kd.R_drewN | apply Kd.R_drew)); exact HO132.out) hb); have n6_ := Aside0.mk (Kd.R_below (by (with_reducible repeat (first | apply Kd.R_alloc | apply Kd.R_drewN | apply Kd.R_drew)); exact HO135.out) hb); have n7_ := Aside0.mk (Kd.R_below (by (with_reducible repeat (first | apply Kd.R_alloc | apply Kd.R_drewN | apply Kd.R_drew)); exact HO138.out) hb); have n8_ := Aside0.mk (Kd.R_below (by (with_reducible repeat (first | apply Kd.R_alloc | apply Kd.R_drewN | apply Kd.R_drew)); exact HO142.out) hb); have n9_ := qs hb; clear HO117; clear HO120; clear HO123; clear HO128; clear HO130; clear HO132; clear HO135; clear HO138; clear HO142; clear HB; have HO117 := n0_; have HO120 := n1_; have HO123 := n2_; have HO128 := n3_; have HO130 := n4_; have HO132 := n5_; have HO135 := n6_; have HO138 := n7_; have HO142 := n8_; have HB := n9_; clear n0_ n1_ n2_ n3_ n4_ n5_ n6_ n7_ n8_ n9_; (try clear hb); obtain ⟨Ao43, co43, eo43⟩ := Kd.R_slice HO128.out; subst eo43; have p144 : 0 ≤ (0 : Int) := (by omega); have q144 : 0 < (t124.length : Int) := qa; obtain ⟨ad144, e144, hx144_0⟩ := Kd.at_bool (Kd.R_reads' HO128.out).2.2 0 p144 q144; (try rw [← Nbq9.out] at hx144_0); cases e144; have qi144 : (0 < t124.length) = True := eq_true (by omega); (try rw [show ((0 : Int)).toNat = 0 from rfl] at hx144_0); (try rw [Addr.add_zero'] at hx144_0); replace p144 := eq_true p144; replace q144 := eq_true q144; obtain ⟨Ao44, co44, eo44⟩ := Kd.R_slice HO130.out; subst eo44; have p145 : 0 ≤ (0 : Int) := (by omega); have q145 : 0 < (t125.length : Int) := qa; obtain ⟨ad145, e145, hx145_0⟩ := Kd.at_string (Kd.R_reads' HO130.out).2.2 0 p145 q145; cases e145; have qi145 : (0 < t125.length) = True := eq_true (by omega); (try rw [show ((0 : Int)).toNat = 0 from rfl] at hx145_0); (try rw [Addr.add_zero'] at hx145_0); replace p145 := eq_true p145; replace q145 := eq_true q145; obtain ⟨Ao45, co45, eo45⟩ := Kd.R_slice HO132.out; subst eo45))
         go_ret
         exact qr
        ·rw [if_neg c13] at H
         obtain ⟨c13b0, c13b1⟩ := qd c13
         exact absurd ((Option.some.inj H).trans HRT.out) (by decide)
       ·rw [if_neg c12] at H
        exact absurd H (by simp)
      ·rw [if_neg c11] at H
       obtain ⟨c11b0, c11b1⟩ := qd c11
       exact absurd ((Option.some.inj H).trans HRT.out) (by decide)
     ·replace c10 := Bool.eq_false_iff.mpr c10
      subst c10
      rw [if_neg qf] at H
      exact absurd ((Option.some.inj H).trans HRT.out) (by decide)
    ·rw [if_neg c8] at H
     exact absurd H (by simp)
   ·rw [if_neg c7] at H
    obtain ⟨c7b0, c7b1⟩ := qd c7
    exact absurd ((Option.some.inj H).trans HRT.out) (by decide)
  ·rw [if_neg c6] at H
   obtain ⟨c6b0, c6b1⟩ := qd c6
   exact absurd ((Option.some.inj H).trans HRT.out) (by decide)
 ·rw [if_neg c5] at H
  obtain ⟨c5b0, c5b1⟩ := qd c5
  exact absurd ((Option.some.inj H).trans HRT.out) (by decide)
theorem malthouselaw09_awake_r {k : Nat} {r : Bool} (h : malthouselaw09_awake.f k = some r) : r = true := by
  have h0 : malthouselaw09_awake.f 40 = some true := by decide +kernel
  have up : ∀ n a b, malthouselaw09_awake.f a = some b → malthouselaw09_awake.f (a + n) = some b := fun n => by
    induction n with
    | zero => exact fun a b h => h
    | succ n ih => exact fun a b h => malthouselaw09_awake.mono _ _ (ih a b h)
  have h1 := up 40 k r h
  have h2 := up k 40 true h0
  rw [Nat.add_comm] at h2
  rw [h1] at h2
  exact Option.some.inj h2
end Go.Proofs.YtiaccdaeomaogaaDoor.F
namespace Go.Proofs.YtiaccdaeomaogaaDoor.F
open Go.RowKit Go.Proofs.YtiaccdaeomaogaaDoorW.PrintWords Go.Proofs.YtiaccdaeomaogaaDoorW.PrintLast Go.Proofs.YtiaccdaeomaogaaDoorW.PrintMore
set_option linter.unusedVariables false
set_option linter.unusedSimpArgs false
theorem up_to {α : Type} {f : Nat → Option α} (hm : ∀ k, LeO (f k) (f (k + 1))) {k : Nat} {v : α} (h : f k = some v) : Tot f v := by
  refine ⟨k, fun j hj => ?_⟩
  obtain ⟨n, rfl⟩ : ∃ n, j = k + n := ⟨j - k, by omega⟩
  clear hj
  induction n with
  | zero => exact h
  | succ n ih => exact hm _ _ ih
theorem awake_tot : Tot (fun k => malthouselaw09_awake.f k) true := up_to (f := fun k => malthouselaw09_awake.f k) malthouselaw09_awake.mono (show malthouselaw09_awake.f 40 = some true by decide +kernel)
theorem Light_l1 (l : List S43) (i : Nat) (hi : i < l.length) (hI : ∀ y ∈ (rd_T43 l (i : Int)).f2, OkI y.f2) (hL : (rd_T43 l (i : Int)).f2.length ≤ 50) {b : Bool} (hb : Tot (fun k => malthouseref09_Light.l0 k l ((i + 1 : Nat) : Int)) b) (hil : i < 50) :
    ∀ (m j : Nat), j + m = (rd_T43 l (i : Int)).f2.length → ∃ c, Tot (fun k => malthouseref09_Light.l1 k l (i : Int) (j : Int)) c ∧ (c = true → b = true ∧ ∀ x ∈ (rd_T43 l (i : Int)).f2.drop j, OkE x.f2)
  | 0, j, e => by
    refine ⟨b, Tot.succ ?_, fun h => ⟨h, fun x hx => by rw [List.drop_eq_nil_of_le (by omega)] at hx; cases hx⟩⟩
    simp only [malthouseref09_Light.l1, if_pos (show 0 ≤ (i : Int) by omega), if_pos (show (i : Int) < (l.length : Int) by omega), if_neg (show ¬ (j : Int) < ((rd_T43 l (i : Int)).f2.length : Int) by omega), w1 (show 0 ≤ (i : Int) by omega) (show (i : Int) < 9223372036854775807 by omega)]
    exact hb
  | m + 1, j, e => by
    have hj : j < (rd_T43 l (i : Int)).f2.length := by omega
    obtain ⟨x, hx⟩ : ∃ x, rd_T40 (rd_T43 l (i : Int)).f2 (j : Int) = x := ⟨_, rfl⟩
    have hxI := hI _ (rd40_mem hj)
    rw [drop40 hj]
    rw [hx] at hxI ⊢
    by_cases hn : (x.f1.size : Int) > 200
    · refine ⟨false, Tot.succ ?_, fun h => by cases h⟩
      simp only [malthouseref09_Light.l1, if_pos (show 0 ≤ (i : Int) by omega), if_pos (show (i : Int) < (l.length : Int) by omega), if_pos (show (j : Int) < ((rd_T43 l (i : Int)).f2.length : Int) by omega), if_pos (show 0 ≤ (j : Int) by omega), hx, if_pos hn]
      exact Tot.const _
    · obtain ⟨t, ht, t0, tb, tk⟩ := Weight_tot hxI 200 (by omega) (by omega)
      by_cases ht0 : t = 0
      · refine ⟨false, Tot.succ ?_, fun h => by cases h⟩
        simp only [malthouseref09_Light.l1, if_pos (show 0 ≤ (i : Int) by omega), if_pos (show (i : Int) < (l.length : Int) by omega), if_pos (show (j : Int) < ((rd_T43 l (i : Int)).f2.length : Int) by omega), if_pos (show 0 ≤ (j : Int) by omega), hx, if_neg hn]
        exact Tot.bind ht (by simp only [if_pos ht0]; exact Tot.const _)
      · obtain ⟨c, hc, hk⟩ := Light_l1 l i hi hI hL hb hil m (j + 1) (by omega)
        refine ⟨c, Tot.succ ?_, fun h => ⟨(hk h).1, fun y hy => ?_⟩⟩
        · simp only [malthouseref09_Light.l1, if_pos (show 0 ≤ (i : Int) by omega), if_pos (show (i : Int) < (l.length : Int) by omega), if_pos (show (j : Int) < ((rd_T43 l (i : Int)).f2.length : Int) by omega), if_pos (show 0 ≤ (j : Int) by omega), hx, if_neg hn, w1 (show 0 ≤ (j : Int) by omega) (show (j : Int) < 9223372036854775807 by omega)]
          exact Tot.bind ht (by simp only [if_neg ht0]; exact hc)
        · rcases List.mem_cons.mp hy with rfl | hy
          · exact tk ht0
          · exact (hk h).2 y hy
theorem Light_l0 (l : List S43) (hl : l.length ≤ 50) (hI : ∀ y ∈ l, InR y) : ∀ (m i : Nat), i + m = l.length → ∃ b, Tot (fun k => malthouseref09_Light.l0 k l (i : Int)) b ∧ (b = true → ∀ r ∈ l.drop i, OkR r)
  | 0, i, e => by
    refine ⟨true, Tot.succ ?_, fun _ r hr => by rw [List.drop_eq_nil_of_le (by omega)] at hr; cases hr⟩
    simp only [malthouseref09_Light.l0, if_neg (show ¬ (i : Int) < (l.length : Int) by omega)]
    exact Tot.const _
  | m + 1, i, e => by
    have hi : i < l.length := by omega
    have hR := hI _ (rd43_mem hi)
    obtain ⟨b, hb, hk⟩ := Light_l0 l hl hI m (i + 1) (by omega)
    rw [drop43 hi]
    by_cases h1 : ((rd_T43 l (i : Int)).f2.length : Int) > 50
    · refine ⟨false, Tot.succ ?_, fun h => by cases h⟩
      simp only [malthouseref09_Light.l0, if_pos (show (i : Int) < (l.length : Int) by omega), if_pos (show 0 ≤ (i : Int) by omega), if_pos h1]
      exact Tot.succ (by simp only [malthouseref09_Light.j1, if_true]; exact Tot.const _)
    by_cases h2 : ((rd_T43 l (i : Int)).f1.size : Int) > 200
    · refine ⟨false, Tot.succ ?_, fun h => by cases h⟩
      simp only [malthouseref09_Light.l0, if_pos (show (i : Int) < (l.length : Int) by omega), if_pos (show 0 ≤ (i : Int) by omega), if_neg h1, h2, decide_true]
      exact Tot.succ (by simp only [malthouseref09_Light.j1, if_true]; exact Tot.const _)
    obtain ⟨c, hc, hck⟩ := Light_l1 l i hi hR.1 (by omega) hb (by omega) (rd_T43 l (i : Int)).f2.length 0 (by omega)
    refine ⟨c, Tot.succ ?_, fun h r hr => ?_⟩
    · simp only [malthouseref09_Light.l0, if_pos (show (i : Int) < (l.length : Int) by omega), if_pos (show 0 ≤ (i : Int) by omega), if_neg h1, h2, decide_false]
      exact Tot.succ (by simp only [malthouseref09_Light.j1, if_neg (show ¬ (false = true) by decide)]; exact hc)
    · obtain ⟨g1, g2⟩ := hck h
      rcases List.mem_cons.mp hr with rfl | hr
      · exact ⟨by omega, by omega, g2⟩
      · exact hk g1 r hr
theorem Light_tot (l : List S43) (hI : ∀ y ∈ l, InR y) : ∃ b, Tot (fun k => malthouseref09_Light.f k l) b ∧ (b = true → l.length ≤ 50 ∧ ∀ r ∈ l, OkR r) := by
  unfold malthouseref09_Light.f
  by_cases h : (l.length : Int) > 50
  · simp only [if_pos h]; exact ⟨false, Tot.const _, fun h => by cases h⟩
  · simp only [if_neg h]
    obtain ⟨b, hb, hk⟩ := Light_l0 l (by omega) hI l.length 0 (by omega)
    exact ⟨b, hb, fun e => ⟨by omega, by simpa using hk e⟩⟩
theorem cells_tot (l : List S69) : ∃ b, Tot (fun k => malthouselaw09_cells.f k l) b ∧ (b = true → l.length ≤ 100) := by
  unfold malthouselaw09_cells.f
  by_cases h : (l.length : Int) > 100
  · simp only [if_pos h]; exact ⟨false, Tot.const _, fun h => by cases h⟩
  · simp only [if_neg h]
    have L : ∀ (m i : Nat), i + m = l.length → ∃ b, Tot (fun k => malthouselaw09_cells.l0 k l (i : Int)) b := by
      intro m
      induction m with
      | zero => intro i e; exact ⟨true, Tot.succ (by simp only [malthouselaw09_cells.l0, if_neg (show ¬ (i : Int) < (l.length : Int) by omega)]; exact Tot.const _)⟩
      | succ m ih =>
        intro i e
        by_cases hn : ((rd_T69 l (i : Int)).f0.size : Int) > 200
        · exact ⟨false, Tot.succ (by simp only [malthouselaw09_cells.l0, if_pos (show (i : Int) < (l.length : Int) by omega), if_pos (show 0 ≤ (i : Int) by omega), if_pos hn]; exact Tot.const _)⟩
        · obtain ⟨b, hb⟩ := ih (i + 1) (by omega)
          exact ⟨b, Tot.succ (by simp only [malthouselaw09_cells.l0, if_pos (show (i : Int) < (l.length : Int) by omega), if_pos (show 0 ≤ (i : Int) by omega), if_neg hn, w1 (show 0 ≤ (i : Int) by omega) (show (i : Int) < 9223372036854775807 by omega)]; exact hb)⟩
    obtain ⟨b, hb⟩ := L l.length 0 (by omega)
    exact ⟨b, hb, fun _ => by omega⟩
def PlainR (r : S43) : Prop := r.f0 ≠ 2 ∧ ∀ x ∈ r.f2, x.f0 ≠ 1 ∧ x.f0 ≠ 4 ∧ x.f0 ≠ 6 ∧ x.f0 ≠ 9
theorem plain_l1 (l : List S43) (i : Nat) (hi : i < l.length) (hl : l.length ≤ 9223372036854775807) (hL : (rd_T43 l (i : Int)).f2.length ≤ 9223372036854775807) {b : Bool} (hb : Tot (fun k => malthouselaw09_plain.l0 k l ((i + 1 : Nat) : Int)) b) :
    ∀ (m j : Nat), j + m = (rd_T43 l (i : Int)).f2.length → ∃ c, Tot (fun k => malthouselaw09_plain.l1 k l (i : Int) (j : Int)) c ∧ (c = true → b = true ∧ ∀ x ∈ (rd_T43 l (i : Int)).f2.drop j, x.f0 ≠ 1 ∧ x.f0 ≠ 4 ∧ x.f0 ≠ 6 ∧ x.f0 ≠ 9)
  | 0, j, e => by
    refine ⟨b, Tot.succ ?_, fun h => ⟨h, fun x hx => by rw [List.drop_eq_nil_of_le (by omega)] at hx; cases hx⟩⟩
    simp only [malthouselaw09_plain.l1, if_pos (show 0 ≤ (i : Int) by omega), if_pos (show (i : Int) < (l.length : Int) by omega), if_neg (show ¬ (j : Int) < ((rd_T43 l (i : Int)).f2.length : Int) by omega), w1 (show 0 ≤ (i : Int) by omega) (show (i : Int) < 9223372036854775807 by omega)]
    exact hb
  | m + 1, j, e => by
    have hj : j < (rd_T43 l (i : Int)).f2.length := by omega
    obtain ⟨x, hx⟩ : ∃ x, rd_T40 (rd_T43 l (i : Int)).f2 (j : Int) = x := ⟨_, rfl⟩
    rw [drop40 hj]
    rw [hx]
    suffices hs : ∃ c, Tot (fun k => malthouselaw09_plain.l1 (k + 1) l (i : Int) (j : Int)) c ∧ (c = true → b = true ∧ ∀ y ∈ x :: (rd_T43 l (i : Int)).f2.drop (j + 1), y.f0 ≠ 1 ∧ y.f0 ≠ 4 ∧ y.f0 ≠ 6 ∧ y.f0 ≠ 9) by
      obtain ⟨c, h1, h2⟩ := hs; exact ⟨c, Tot.succ h1, h2⟩
    simp only [malthouselaw09_plain.l1, if_pos (show 0 ≤ (i : Int) by omega), if_pos (show (i : Int) < (l.length : Int) by omega), if_pos (show (j : Int) < ((rd_T43 l (i : Int)).f2.length : Int) by omega), if_pos (show 0 ≤ (j : Int) by omega), hx, w1 (show 0 ≤ (j : Int) by omega) (show (j : Int) < 9223372036854775807 by omega)]
    by_cases h1 : x.f0 = 1
    · simp only [if_pos h1]; exact ⟨false, Tot.const _, fun h => by cases h⟩
    by_cases h4 : x.f0 = 4
    · simp only [if_neg h1, if_pos h4]; exact ⟨false, Tot.const _, fun h => by cases h⟩
    by_cases h6 : x.f0 = 6
    · simp only [if_neg h1, if_neg h4, if_pos h6]; exact ⟨false, Tot.const _, fun h => by cases h⟩
    by_cases h9 : x.f0 = 9
    · simp only [if_neg h1, if_neg h4, if_neg h6, if_pos h9]; exact ⟨false, Tot.const _, fun h => by cases h⟩
    obtain ⟨c, hc, hk⟩ := plain_l1 l i hi hl hL hb m (j + 1) (by omega)
    simp only [if_neg h1, if_neg h4, if_neg h6, if_neg h9]
    exact ⟨c, hc, fun h => ⟨(hk h).1, fun y hy => by rcases List.mem_cons.mp hy with rfl | hy; exact ⟨h1, h4, h6, h9⟩; exact (hk h).2 y hy⟩⟩
theorem plain_l0 (l : List S43) (hl : l.length ≤ 9223372036854775807) (hI : ∀ y ∈ l, InR y) : ∀ (m i : Nat), i + m = l.length → ∃ b, Tot (fun k => malthouselaw09_plain.l0 k l (i : Int)) b ∧ (b = true → ∀ r ∈ l.drop i, PlainR r)
  | 0, i, e => by
    refine ⟨true, Tot.succ ?_, fun _ r hr => by rw [List.drop_eq_nil_of_le (by omega)] at hr; cases hr⟩
    simp only [malthouselaw09_plain.l0, if_neg (show ¬ (i : Int) < (l.length : Int) by omega)]
    exact Tot.const _
  | m + 1, i, e => by
    have hi : i < l.length := by omega
    have hR := (hI _ (rd43_mem hi)).2
    obtain ⟨b, hb, hk⟩ := plain_l0 l hl hI m (i + 1) (by omega)
    rw [drop43 hi]
    by_cases h1 : (rd_T43 l (i : Int)).f0 = 2
    · refine ⟨false, Tot.succ ?_, fun h => by cases h⟩
      simp only [malthouselaw09_plain.l0, if_pos (show (i : Int) < (l.length : Int) by omega), if_pos (show 0 ≤ (i : Int) by omega), if_pos h1]
      exact Tot.const _
    obtain ⟨c, hc, hck⟩ := plain_l1 l i hi hl (by unfold maxLen at hR; omega) hb (rd_T43 l (i : Int)).f2.length 0 (by omega)
    refine ⟨c, Tot.succ ?_, fun h r hr => ?_⟩
    · simp only [malthouselaw09_plain.l0, if_pos (show (i : Int) < (l.length : Int) by omega), if_pos (show 0 ≤ (i : Int) by omega), if_neg h1]
      exact hc
    · obtain ⟨g1, g2⟩ := hck h
      rcases List.mem_cons.mp hr with rfl | hr
      · exact ⟨h1, g2⟩
      · exact hk g1 r hr
theorem plain_tot (l : List S43) (hl : l.length ≤ 9223372036854775807) (hI : ∀ y ∈ l, InR y) : ∃ b, Tot (fun k => malthouselaw09_plain.f k l) b ∧ (b = true → ∀ r ∈ l, PlainR r) := by
  obtain ⟨b, hb, hk⟩ := plain_l0 l hl hI l.length 0 (by omega)
  exact ⟨b, hb, by simpa using hk⟩
theorem Place_tot (l : List ByteArray) (x : ByteArray) (hl : l.length < 9223372036854775807) : Tot (fun k => malthouseref09_Place.f k l x) (ixF l x 0) := by
  have L : ∀ (n i : Nat), i + n = l.length → Tot (fun k => malthouseref09_Place.l0 k l x (i : Int)) (ixF (l.drop i) x (i : Int)) := by
    intro n
    induction n with
    | zero =>
      intro i e
      refine Tot.succ ?_
      rw [List.drop_eq_nil_of_le (by omega)]
      simp only [malthouseref09_Place.l0, if_neg (show ¬ (i : Int) < (l.length : Int) by omega), ixF]
      exact Tot.const _
    | succ n ih =>
      intro i e
      refine Tot.succ ?_
      rw [drop_rd ByteArray.empty (show i < l.length by omega)]
      simp only [malthouseref09_Place.l0, if_pos (show (i : Int) < (l.length : Int) by omega), if_pos (show 0 ≤ (i : Int) by omega), ixF]
      by_cases h : x.toList = (rdOf ByteArray.empty l (i : Int)).toList
      · simp only [if_pos h, if_pos h.symm]; exact Tot.const _
      · simp only [if_neg h, if_neg (show ¬ (rdOf ByteArray.empty l (i : Int)).toList = x.toList from fun e => h e.symm), w1 (show 0 ≤ (i : Int) by omega) (show (i : Int) < 9223372036854775807 by omega)]
        exact ih (i + 1) (by omega)
  exact L l.length 0 (by omega)
end Go.Proofs.YtiaccdaeomaogaaDoor.F
namespace Go.Proofs.YtiaccdaeomaogaaDoor.F
open Go.RowKit Go.Proofs.YtiaccdaeomaogaaDoorW.PrintWords Go.Proofs.YtiaccdaeomaogaaDoorW.PrintLast Go.Proofs.YtiaccdaeomaogaaDoorW.PrintMore
attribute [local go_sem] max2_int min2_int max_two min_two max_three min_three max_four min_four   -- for this text's walks alone
set_option linter.unusedVariables false
set_option linter.unusedSimpArgs false
def malthouseref09_Bools.l0 : Nat → List Bool → List Bool → Int → Option (Bool)
  | 0, _, _, _ => none
  | k + 1, x0, x1, x5 => if x5 < (x0.length : Int) then (if 0 ≤ x5 then (if x5 < (x1.length : Int) then (if ((rdOf false x0 x5) != (rdOf false x1 x5)) = true then (some false) else (malthouseref09_Bools.l0 k x0 x1 (wrap64 (x5 + 1)))) else (none)) else (none)) else (some true)
def malthouseref09_Bools.f (k : Nat) (l0 : List Bool) (l1 : List Bool) : Option (Bool) := if (l0.length : Int) = (l1.length : Int) then (malthouseref09_Bools.l0 k l0 l1 0) else (some false)
theorem malthouseref09_Bools.mono_l : ∀ k, (∀ y0 y1 y2, LeO (malthouseref09_Bools.l0 k y0 y1 y2) (malthouseref09_Bools.l0 (k + 1) y0 y1 y2))
  | 0 => fun _ _ _ r h => by simp [malthouseref09_Bools.l0] at h
  | k + 1 => by
    have ih0 := malthouseref09_Bools.mono_l k
    · intro y0 y1 y2
      unfold malthouseref09_Bools.l0
      repeat' first
      | (with_reducible exact ih0 _ _ _)
      | (with_reducible exact LeO.refl _)
      | (with_reducible exact LeO.none _)
      | (with_reducible refine LeO.ite ?_ ?_)
      | (with_reducible refine LeO.bind ?_ (fun _ => ?_))
      | exact ih0 _ _ _
      | exact LeO.none _
      | refine LeO.ite ?_ ?_
      | refine LeO.bind ?_ (fun _ => ?_)
theorem malthouseref09_Bools.mono : ∀ a0 a1 k, LeO (malthouseref09_Bools.f k a0 a1) (malthouseref09_Bools.f (k + 1) a0 a1) := by
  intro a0 a1 k
  have ih0 := malthouseref09_Bools.mono_l k
  unfold malthouseref09_Bools.f
  repeat' first
      | (with_reducible exact ih0 _ _ _)
      | (with_reducible exact LeO.refl _)
      | (with_reducible exact LeO.none _)
      | (with_reducible refine LeO.ite ?_ ?_)
      | (with_reducible refine LeO.bind ?_ (fun _ => ?_))
      | exact ih0 _ _ _
      | exact LeO.none _
      | refine LeO.ite ?_ ?_
      | refine LeO.bind ?_ (fun _ => ?_)
set_option maxHeartbeats 8000000 in
set_option maxRecDepth 100000 in
theorem malthouseref09_Bools.calls (k : Nat) (A0 : Option Addr) (c0 : Nat) (l0 : List Bool) (A1 : Option Addr) (c1 : Nat) (l1 : List Bool) (r : Bool) (w : World) (hr0 : Kd.C Kd.bool w A0 l0.length l0) (hc0 : l0.length ≤ c0) (hr1 : Kd.C Kd.bool w A1 l1.length l1) (hc1 : l1.length ≤ c1) (h : malthouseref09_Bools.f k l0 l1 = some r) :
  Calls Tryd.prog 32 #[.slice A0 l0.length c0, .slice A1 l1.length c1] w fun e w' => e = .returned (.bool r) ∧ Drawn0 w w' := by
 have HR0 := Aside0.mk hr0
 have HC0 := Aside0.mk hc0
 clear hr0 hc0
 have HR1 := Aside0.mk hr1
 have HC1 := Aside0.mk hc1
 clear hr1 hc1
 have H : (if (l0.length : Int) = (l1.length : Int) then (malthouseref09_Bools.l0 k l0 l1 0) else (some false)) = some r := h
 clear h
 by_cases c3 : (l0.length : Int) = (l1.length : Int)
 ·rw [if_pos c3] at H
  obtain ⟨c3b0, c3b1⟩ := qe c3
  have c3b2 : (l0.length == l1.length) = true := by first | simpa using c3 | (simp at c3 ⊢; omega)
  clear c3
  have H' := Aside0.mk H
  clear H
  go_enter Tryd.func32, Tryd.ntmps32
  go_wp2
  repeat (go_quiet (fail); try go_wp2)
  go_loopg [5] k (fun kq v5 w' => ∃ (x5_1 : Int), v5 = .int .i64 x5_1 ∧ Aside0 (malthouseref09_Bools.l0 kq l0 l1 x5_1 = some r) ∧ Aside0 (kq ≤ k) ∧ Drawn0 w w')
  case atStart => exact ⟨(0), qv, H', ⟨Nat.le_refl _⟩, by repeat (first | exact Drawn0.refl _ | apply Drawn0.step)⟩
  case round =>
   clear H'
   obtain ⟨x5_1, rfl, HA, HK1, ⟨m1, rfl⟩⟩ := hrel
   cases gk with
   | zero => exact absurd HA.out (by simp [malthouseref09_Bools.l0])
   | succ k1 =>
    have H := HA.out
    clear HA
    simp only [malthouseref09_Bools.l0] at H
    by_cases c4 : x5_1 < (l0.length : Int)
    ·rw [if_pos c4] at H
     have c4b0 : decide (x5_1 < (l0.length : Int)) = true := decide_eq_true c4
     clear c4
     by_cases c5 : 0 ≤ x5_1
     ·rw [if_pos c5] at H
      have c5b0 : decide (0 ≤ x5_1) = true := decide_eq_true c5
      clear c5
      by_cases c6 : x5_1 < (l1.length : Int)
      ·rw [if_pos c6] at H
       have c6b0 : decide (x5_1 < (l1.length : Int)) = true := decide_eq_true c6
       clear c6
       by_cases c7 : ((rdOf false l0 x5_1) != (rdOf false l1 x5_1)) = true
       ·rw [if_pos c7] at H
        have c7b0 : ((rdOf false l0 x5_1) != (rdOf false l1 x5_1)) = true := c7
        (try (have c7b1 : decide ((rdOf false l0 x5_1) = (rdOf false l1 x5_1)) = false := by simpa using c7))
        (try (have c7b2 : ((rdOf false l0 x5_1) == (rdOf false l1 x5_1)) = false := by simpa using c7))
        (try (have c7b3 : ¬ ((rdOf false l0 x5_1) = (rdOf false l1 x5_1)) := by simpa using c7))
        clear c7
        obtain rfl := Option.some.inj H
        have p101 : 0 ≤ (x5_1 : Int) := qa
        have q101 : x5_1 < (l0.length : Int) := qa
        obtain ⟨ad101, e101, hx101_0⟩ := Kd.at_bool HR0.out x5_1 p101 q101
        cases e101
        replace p101 := eq_true p101
        replace q101 := eq_true q101
        have p102 : 0 ≤ (x5_1 : Int) := qa
        have q102 : x5_1 < (l1.length : Int) := qa
        obtain ⟨ad102, e102, hx102_0⟩ := Kd.at_bool HR1.out x5_1 p102 q102
        cases e102
        replace p102 := eq_true p102
        replace q102 := eq_true q102
        go_wp2
        repeat (go_quiet (fail); try go_wp2)
        go_ret
        exact ⟨by first | rfl | (simp; done) | (simp [*]; done), by repeat (first | exact Drawn0.refl _ | apply Drawn0.step)⟩
       ·rw [if_neg c7] at H
        have c7b0 : ((rdOf false l0 x5_1) != (rdOf false l1 x5_1)) = false := by simpa using c7
        (try (have c7b1 : decide ((rdOf false l0 x5_1) = (rdOf false l1 x5_1)) = true := by simpa using c7))
        (try (have c7b2 : ((rdOf false l0 x5_1) == (rdOf false l1 x5_1)) = true := by simpa using c7))
        clear c7
        have H' := Aside0.mk H
        clear H
        have p101 : 0 ≤ (x5_1 : Int) := qa
        have q101 : x5_1 < (l0.length : Int) := qa
        obtain ⟨ad101, e101, hx101_0⟩ := Kd.at_bool HR0.out x5_1 p101 q101
        cases e101
        replace p101 := eq_true p101
        replace q101 := eq_true q101
        have p102 : 0 ≤ (x5_1 : Int) := qa
        have q102 : x5_1 < (l1.length : Int) := qa
        obtain ⟨ad102, e102, hx102_0⟩ := Kd.at_bool HR1.out x5_1 p102 q102
        cases e102
        replace p102 := eq_true p102
        replace q102 := eq_true q102
        go_wp2
        repeat (go_quiet (fail); try go_wp2)
        go_roundg k1
        case measure => have := HK1.out; omega
        case rel => exact ⟨(wrap64 (x5_1 + 1)), qv, H', ⟨by have := HK1.out; omega⟩, by repeat (first | exact Drawn0.refl _ | apply Drawn0.step)⟩
      ·rw [if_neg c6] at H
       exact absurd H (by simp)
     ·rw [if_neg c5] at H
      exact absurd H (by simp)
    ·rw [if_neg c4] at H
     have c4b0 : decide (x5_1 < (l0.length : Int)) = false := decide_eq_false c4
     clear c4
     obtain rfl := Option.some.inj H
     go_wp2
     repeat (go_quiet (fail); try go_wp2)
     go_ret
     exact ⟨by first | rfl | (simp; done) | (simp [*]; done), by repeat (first | exact Drawn0.refl _ | apply Drawn0.step)⟩
 ·rw [if_neg c3] at H
  obtain ⟨c3b0, c3b1⟩ := qd c3
  have c3b2 : (l0.length == l1.length) = false := by first | simpa using c3 | (simp at c3 ⊢; omega)
  obtain rfl := Option.some.inj H
  go_enter Tryd.func32, Tryd.ntmps32
  go_wp2
  repeat (go_quiet (fail); try go_wp2)
  go_ret
  exact ⟨by first | rfl | (simp; done) | (simp [*]; done), by repeat (first | exact Drawn0.refl _ | apply Drawn0.step)⟩
def malthouseref09_Texts.l0 : Nat → List ByteArray → List ByteArray → Int → Option (Bool)
  | 0, _, _, _ => none
  | k + 1, x0, x1, x5 => if x5 < (x0.length : Int) then (if 0 ≤ x5 then (if x5 < (x1.length : Int) then (if (rdOf ByteArray.empty x0 x5).toList = (rdOf ByteArray.empty x1 x5).toList then (malthouseref09_Texts.l0 k x0 x1 (wrap64 (x5 + 1))) else (some false)) else (none)) else (none)) else (some true)
def malthouseref09_Texts.f (k : Nat) (l0 : List ByteArray) (l1 : List ByteArray) : Option (Bool) := if (l0.length : Int) = (l1.length : Int) then (malthouseref09_Texts.l0 k l0 l1 0) else (some false)
theorem malthouseref09_Texts.mono_l : ∀ k, (∀ y0 y1 y2, LeO (malthouseref09_Texts.l0 k y0 y1 y2) (malthouseref09_Texts.l0 (k + 1) y0 y1 y2))
  | 0 => fun _ _ _ r h => by simp [malthouseref09_Texts.l0] at h
  | k + 1 => by
    have ih0 := malthouseref09_Texts.mono_l k
    · intro y0 y1 y2
      unfold malthouseref09_Texts.l0
      repeat' first
      | (with_reducible exact ih0 _ _ _)
      | (with_reducible exact LeO.refl _)
      | (with_reducible exact LeO.none _)
      | (with_reducible refine LeO.ite ?_ ?_)
      | (with_reducible refine LeO.bind ?_ (fun _ => ?_))
      | exact ih0 _ _ _
      | exact LeO.none _
      | refine LeO.ite ?_ ?_
      | refine LeO.bind ?_ (fun _ => ?_)
theorem malthouseref09_Texts.mono : ∀ a0 a1 k, LeO (malthouseref09_Texts.f k a0 a1) (malthouseref09_Texts.f (k + 1) a0 a1) := by
  intro a0 a1 k
  have ih0 := malthouseref09_Texts.mono_l k
  unfold malthouseref09_Texts.f
  repeat' first
      | (with_reducible exact ih0 _ _ _)
      | (with_reducible exact LeO.refl _)
      | (with_reducible exact LeO.none _)
      | (with_reducible refine LeO.ite ?_ ?_)
      | (with_reducible refine LeO.bind ?_ (fun _ => ?_))
      | exact ih0 _ _ _
      | exact LeO.none _
      | refine LeO.ite ?_ ?_
      | refine LeO.bind ?_ (fun _ => ?_)
set_option maxHeartbeats 8000000 in
set_option maxRecDepth 100000 in
theorem malthouseref09_Texts.calls (k : Nat) (A0 : Option Addr) (c0 : Nat) (l0 : List ByteArray) (A1 : Option Addr) (c1 : Nat) (l1 : List ByteArray) (r : Bool) (w : World) (hr0 : Kd.C Kd.string w A0 l0.length l0) (hc0 : l0.length ≤ c0) (hr1 : Kd.C Kd.string w A1 l1.length l1) (hc1 : l1.length ≤ c1) (h : malthouseref09_Texts.f k l0 l1 = some r) :
  Calls Tryd.prog 22 #[.slice A0 l0.length c0, .slice A1 l1.length c1] w fun e w' => e = .returned (.bool r) ∧ Drawn0 w w' := by
 have HR0 := Aside0.mk hr0
 have HC0 := Aside0.mk hc0
 clear hr0 hc0
 have HR1 := Aside0.mk hr1
 have HC1 := Aside0.mk hc1
 clear hr1 hc1
 have H : (if (l0.length : Int) = (l1.length : Int) then (malthouseref09_Texts.l0 k l0 l1 0) else (some false)) = some r := h
 clear h
 by_cases c3 : (l0.length : Int) = (l1.length : Int)
 ·rw [if_pos c3] at H
  obtain ⟨c3b0, c3b1⟩ := qe c3
  have c3b2 : (l0.length == l1.length) = true := by first | simpa using c3 | (simp at c3 ⊢; omega)
  clear c3
  have H' := Aside0.mk H
  clear H
  go_enter Tryd.func22, Tryd.ntmps22
  go_wp2
  repeat (go_quiet (fail); try go_wp2)
  go_loopg [5] k (fun kq v5 w' => ∃ (x5_1 : Int), v5 = .int .i64 x5_1 ∧ Aside0 (malthouseref09_Texts.l0 kq l0 l1 x5_1 = some r) ∧ Aside0 (kq ≤ k) ∧ Drawn0 w w')
  case atStart => exact ⟨(0), qv, H', ⟨Nat.le_refl _⟩, by repeat (first | exact Drawn0.refl _ | apply Drawn0.step)⟩
  case round =>
   clear H'
   obtain ⟨x5_1, rfl, HA, HK1, ⟨m1, rfl⟩⟩ := hrel
   cases gk with
   | zero => exact absurd HA.out (by simp [malthouseref09_Texts.l0])
   | succ k1 =>
    have H := HA.out
    clear HA
    simp only [malthouseref09_Texts.l0] at H
    by_cases c4 : x5_1 < (l0.length : Int)
    ·rw [if_pos c4] at H
     have c4b0 : decide (x5_1 < (l0.length : Int)) = true := decide_eq_true c4
     clear c4
     by_cases c5 : 0 ≤ x5_1
     ·rw [if_pos c5] at H
      have c5b0 : decide (0 ≤ x5_1) = true := decide_eq_true c5
      clear c5
      by_cases c6 : x5_1 < (l1.length : Int)
      ·rw [if_pos c6] at H
       have c6b0 : decide (x5_1 < (l1.length : Int)) = true := decide_eq_true c6
       clear c6
       by_cases c7 : (rdOf ByteArray.empty l0 x5_1).toList = (rdOf ByteArray.empty l1 x5_1).toList
       ·rw [if_pos c7] at H
        obtain ⟨c7b0, c7b1⟩ := qe c7
        clear c7
        have H' := Aside0.mk H
        clear H
        have p101 : 0 ≤ (x5_1 : Int) := qa
        have q101 : x5_1 < (l0.length : Int) := qa
        obtain ⟨ad101, e101, hx101_0⟩ := Kd.at_string HR0.out x5_1 p101 q101
        cases e101
        replace p101 := eq_true p101
        replace q101 := eq_true q101
        have p102 : 0 ≤ (x5_1 : Int) := qa
        have q102 : x5_1 < (l1.length : Int) := qa
        obtain ⟨ad102, e102, hx102_0⟩ := Kd.at_string HR1.out x5_1 p102 q102
        cases e102
        replace p102 := eq_true p102
        replace q102 := eq_true q102
        go_wp2
        repeat (go_quiet (fail); try go_wp2)
        go_roundg k1
        case measure => have := HK1.out; omega
        case rel => exact ⟨(wrap64 (x5_1 + 1)), qv, H', ⟨by have := HK1.out; omega⟩, by repeat (first | exact Drawn0.refl _ | apply Drawn0.step)⟩
       ·rw [if_neg c7] at H
        obtain ⟨c7b0, c7b1⟩ := qd c7
        obtain rfl := Option.some.inj H
        have p101 : 0 ≤ (x5_1 : Int) := qa
        have q101 : x5_1 < (l0.length : Int) := qa
        obtain ⟨ad101, e101, hx101_0⟩ := Kd.at_string HR0.out x5_1 p101 q101
        cases e101
        replace p101 := eq_true p101
        replace q101 := eq_true q101
        have p102 : 0 ≤ (x5_1 : Int) := qa
        have q102 : x5_1 < (l1.length : Int) := qa
        obtain ⟨ad102, e102, hx102_0⟩ := Kd.at_string HR1.out x5_1 p102 q102
        cases e102
        replace p102 := eq_true p102
        replace q102 := eq_true q102
        go_wp2
        repeat (go_quiet (fail); try go_wp2)
        go_ret
        exact ⟨by first | rfl | (simp; done) | (simp [*]; done), by repeat (first | exact Drawn0.refl _ | apply Drawn0.step)⟩
      ·rw [if_neg c6] at H
       exact absurd H (by simp)
     ·rw [if_neg c5] at H
      exact absurd H (by simp)
    ·rw [if_neg c4] at H
     have c4b0 : decide (x5_1 < (l0.length : Int)) = false := decide_eq_false c4
     clear c4
     obtain rfl := Option.some.inj H
     go_wp2
     repeat (go_quiet (fail); try go_wp2)
     go_ret
     exact ⟨by first | rfl | (simp; done) | (simp [*]; done), by repeat (first | exact Drawn0.refl _ | apply Drawn0.step)⟩
 ·rw [if_neg c3] at H
  obtain ⟨c3b0, c3b1⟩ := qd c3
  have c3b2 : (l0.length == l1.length) = false := by first | simpa using c3 | (simp at c3 ⊢; omega)
  obtain rfl := Option.some.inj H
  go_enter Tryd.func22, Tryd.ntmps22
  go_wp2
  repeat (go_quiet (fail); try go_wp2)
  go_ret
  exact ⟨by first | rfl | (simp; done) | (simp [*]; done), by repeat (first | exact Drawn0.refl _ | apply Drawn0.step)⟩
end Go.Proofs.YtiaccdaeomaogaaDoor.F
namespace Go.Proofs.YtiaccdaeomaogaaDoor.F
open Go.RowKit Go.Proofs.YtiaccdaeomaogaaDoorW.PrintWords Go.Proofs.YtiaccdaeomaogaaDoorW.PrintLast Go.Proofs.YtiaccdaeomaogaaDoorW.PrintMore
set_option linter.unusedVariables false
set_option linter.unusedSimpArgs false
theorem Bools_same (a : List Bool) (ha : a.length ≤ 9223372036854775807) : Tot (fun k => malthouseref09_Bools.f k a a) true := by
  have L : ∀ (m i : Nat), i + m = a.length → Tot (fun k => malthouseref09_Bools.l0 k a a (i : Int)) true := by
    intro m
    induction m with
    | zero => intro i e; exact Tot.succ (by simp only [malthouseref09_Bools.l0, if_neg (show ¬ (i : Int) < (a.length : Int) by omega)]; exact Tot.const _)
    | succ m ih =>
      intro i e
      refine Tot.succ ?_
      simp only [malthouseref09_Bools.l0, if_pos (show (i : Int) < (a.length : Int) by omega), if_pos (show 0 ≤ (i : Int) by omega), if_neg (show ¬ (rdOf false a (i : Int) != rdOf false a (i : Int)) = true by simp), w1 (show 0 ≤ (i : Int) by omega) (show (i : Int) < 9223372036854775807 by omega)]
      exact ih (i + 1) (by omega)
  unfold malthouseref09_Bools.f
  simp only [if_true]
  exact L a.length 0 (by omega)
theorem Texts_same (a : List ByteArray) (ha : a.length ≤ 9223372036854775807) : Tot (fun k => malthouseref09_Texts.f k a a) true := by
  have L : ∀ (m i : Nat), i + m = a.length → Tot (fun k => malthouseref09_Texts.l0 k a a (i : Int)) true := by
    intro m
    induction m with
    | zero => intro i e; exact Tot.succ (by simp only [malthouseref09_Texts.l0, if_neg (show ¬ (i : Int) < (a.length : Int) by omega)]; exact Tot.const _)
    | succ m ih =>
      intro i e
      refine Tot.succ ?_
      simp only [malthouseref09_Texts.l0, if_pos (show (i : Int) < (a.length : Int) by omega), if_pos (show 0 ≤ (i : Int) by omega), if_true, w1 (show 0 ≤ (i : Int) by omega) (show (i : Int) < 9223372036854775807 by omega)]
      exact ih (i + 1) (by omega)
  unfold malthouseref09_Texts.f
  simp only [if_true]
  exact L a.length 0 (by omega)
end Go.Proofs.YtiaccdaeomaogaaDoor.F
namespace Go.Proofs.YtiaccdaeomaogaaDoor.F
open Go.RowKit Go.Proofs.YtiaccdaeomaogaaDoorW.PrintWords Go.Proofs.YtiaccdaeomaogaaDoorW.PrintLast Go.Proofs.YtiaccdaeomaogaaDoorW.PrintMore Go.Deep Go.ChangeShapes Go.WideShapes
set_option linter.unusedVariables false
set_option linter.unusedSimpArgs false
section
variable {H : Type} {enc : TypeId × Value → H} {P : Program} {w : World} {base : Nat} {spare : Nat → Bool} {held : Bool}
theorem agg_cells (cs : Array Value) : (Value.cells (.agg cs)).toList = cs.toList := rfl
theorem arr_eq {cs : Array Value} {l : List Value} (h : (Value.cells (.agg cs)).toList = l) : cs = l.toArray := by
  rw [agg_cells] at h; rw [← h]
theorem expr_arg {fuel : Nat} {cs : Array Value} {x : DataW H × List MemPlace} (h : DataW.trod enc Tryd.prog w base spare held fuel 34 (Value.cells (.agg cs)).toList = some x) :
    ∃ (y : S34) (A : Option Addr) (c : Nat), cs = #[.int .i64 y.f0, .int .i64 y.f1, .string y.f2, .slice A y.f3.length c] ∧ y.f3.length ≤ c ∧ Kd.C k34 w A y.f3.length y.f3 ∧ OkI y := by
  obtain ⟨y, hk, ho⟩ := expr_item _ _ _ h
  obtain ⟨A, c, e, hl, hc⟩ := k34_open hk
  exact ⟨y, A, c, arr_eq e, hl, hc, ho⟩
theorem rung_arg {fuel : Nat} {cs : Array Value} {x : DataW H × List MemPlace} (h : DataW.trod enc Tryd.prog w base spare held fuel 43 (Value.cells (.agg cs)).toList = some x) :
    ∃ (y : S43) (A : Option Addr) (c : Nat), cs = #[.int .i64 y.f0, .string y.f1, .slice A y.f2.length c] ∧ y.f2.length ≤ c ∧ Kd.C k40 w A y.f2.length y.f2 ∧ InR y := by
  obtain ⟨y, hk, ho⟩ := rung_item _ _ _ h
  obtain ⟨A, c, e, hl, hc⟩ := k43_open hk
  exact ⟨y, A, c, arr_eq e, hl, hc, ho⟩
theorem step_arg {fuel : Nat} {cs : Array Value} {x : DataW H × List MemPlace} (h : DataW.trod enc Tryd.prog w base spare held fuel 67 (Value.cells (.agg cs)).toList = some x) :
    ∃ (y : S67) (A : Option Addr) (c : Nat), cs = #[.int .i64 y.f0, .string y.f1, .string y.f2, .int .i64 y.f3.f0, .int .i64 y.f3.f1, .string y.f3.f2, .slice A y.f3.f3.length c, .int .i64 y.f4] ∧ y.f3.f3.length ≤ c ∧ Kd.C k34 w A y.f3.f3.length y.f3.f3 ∧ OkI y.f3 ∧ I64 y.f4 := by
  obtain ⟨y, hk, ho⟩ := step_item _ _ _ h
  obtain ⟨A, c, e, hl, hc⟩ := k67_open hk
  exact ⟨y, A, c, arr_eq e, hl, hc, ho⟩
theorem sized_rows {t e : TypeId} {a : Option Addr} {len cap : Nat} {d : DataW H} {ps : List MemPlace} {ts : List TypeId} {ds : List (DataW H)} {j : Nat}
    (hsz : (DataW.weightsEach P ts ds).all (· ≤ reachBytes) = true) (ht : ts[j]? = some t) (hd : ds[j]? = some d) (hu : P.underlying t = some (.slice e)) {B : Nat} (hB : P.bytesOf e = B)
    (h : DataW.Trod enc P w base spare held t (.slice a len cap) d ps) : len * B ≤ 140737488351232 := by
  obtain ⟨fuel, hf⟩ := h
  rcases DataW.trod_slice hu hf with ⟨hcs, _⟩ | ⟨x, l, c, elems, rest, n, _, hcs, hx, _, _, _, hl, _⟩
  · simp [Value.cells] at hcs
    obtain ⟨rfl, rfl, rfl⟩ := hcs
    simp
  · simp [Value.cells] at hcs
    obtain ⟨rfl, rfl, rfl⟩ := hcs
    obtain ⟨hx, _⟩ := Prod.mk.inj hx
    subst hx
    have z := sized_slice hsz ht hd hu
    rw [hB] at z
    simp only [List.length_map] at z
    rw [hl] at z
    exact Nat.le_trans (Nat.mul_le_mul_right _ (Nat.le_add_right _ _)) z
end
end Go.Proofs.YtiaccdaeomaogaaDoor.F
