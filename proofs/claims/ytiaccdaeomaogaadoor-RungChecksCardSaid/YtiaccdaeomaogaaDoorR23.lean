/- Texts of one claim, slimmed and merged by slim.py. -/
import Derived.Test.YtiaccdaeomaogaaDoorR4
import Derived.Test.YtiaccdaeomaogaaDoorR7
import Derived.Test.YtiaccdaeomaogaaDoorR12
import Derived.Test.YtiaccdaeomaogaaDoorR13
import Derived.Test.YtiaccdaeomaogaaDoorR16
import Derived.Test.YtiaccdaeomaogaaDoorR22
namespace Go.Proofs.YtiaccdaeomaogaaDoor.F
open Go.RowKit Go.Proofs.YtiaccdaeomaogaaDoorW.PrintWords Go.Proofs.YtiaccdaeomaogaaDoorW.PrintLast Go.Proofs.YtiaccdaeomaogaaDoorW.PrintMore
attribute [local go_sem] max2_int min2_int max_two min_two max_three min_three max_four min_four   -- for this text's walks alone
set_option linter.unusedVariables false
set_option linter.unusedSimpArgs false
mutual
def rung_check.l0 : Nat → List ByteArray → List ByteArray → List ByteArray → List (S43) → Int → Int → Option (Int)
  | 0, _, _, _, _, _, _ => none
  | k + 1, x1, x2, x7, x16, x17, x18 => if x18 < x17 then (if 0 ≤ x18 then (if x18 < (x16.length : Int) then (if ((rd_T43 x16 x18).f0) < 0 then (rung_check.j1 k x1 x2 x7 x16 x17 x18 true ((rd_T43 x16 x18).f0) ((rd_T43 x16 x18).f1) ((rd_T43 x16 x18).f2)) else (if ((rd_T43 x16 x18).f0) > 4 then (rung_check.j1 k x1 x2 x7 x16 x17 x18 true ((rd_T43 x16 x18).f0) ((rd_T43 x16 x18).f1) ((rd_T43 x16 x18).f2)) else ((lex_Name.f ((rd_T43 x16 x18).f1)).bind fun t106 => (rung_check.j1 k x1 x2 x7 x16 x17 x18 (!t106) ((rd_T43 x16 x18).f0) ((rd_T43 x16 x18).f1) ((rd_T43 x16 x18).f2))))) else (none)) else (none)) else (some 0)
def rung_check.j1 : Nat → List ByteArray → List ByteArray → List ByteArray → List (S43) → Int → Int → Bool → Int → ByteArray → List (S40) → Option (Int)
  | 0, _, _, _, _, _, _, _, _, _, _ => none
  | k + 1, x1, x2, x7, x16, x17, x18, x35, x106000, x106001, x106002 => if x35 = true then (some 1) else (if x106000 ≥ 3 then ((slices_Contains_string_string.f k x2 x106001).bind fun t107 => (rung_check.j2 k x1 x2 x7 x16 x17 x18 (!t107) x106000 x106001 x106002)) else (rung_check.j2 k x1 x2 x7 x16 x17 x18 false x106000 x106001 x106002))
def rung_check.j2 : Nat → List ByteArray → List ByteArray → List ByteArray → List (S43) → Int → Int → Bool → Int → ByteArray → List (S40) → Option (Int)
  | 0, _, _, _, _, _, _, _, _, _, _ => none
  | k + 1, x1, x2, x7, x16, x17, x18, x45, x106000, x106001, x106002 => if x45 = true then (some 21) else ((rung_code.f k x106002 x7 x1).bind fun t108 => (if t108 = 0 then (rung_check.l0 k x1 x2 x7 x16 x17 (wrap64 (x18 + 1))) else (some t108)))
end
def rung_check.f (k : Nat) (l0 : List (S43)) (l1 : List ByteArray) (l2 : List ByteArray) : Option (Int) := if (l0.length : Int) > 12 then (some 2) else ((rung_Bits.f k l0).bind fun t101 => (rung_check.l0 k l1 l2 t101 l0 (l0.length : Int) 0))
theorem rung_check.mono_l : ∀ k, (∀ y0 y1 y2 y3 y4 y5, LeO (rung_check.l0 k y0 y1 y2 y3 y4 y5) (rung_check.l0 (k + 1) y0 y1 y2 y3 y4 y5)) ∧ (∀ y0 y1 y2 y3 y4 y5 y6 y7 y8 y9, LeO (rung_check.j1 k y0 y1 y2 y3 y4 y5 y6 y7 y8 y9) (rung_check.j1 (k + 1) y0 y1 y2 y3 y4 y5 y6 y7 y8 y9)) ∧ (∀ y0 y1 y2 y3 y4 y5 y6 y7 y8 y9, LeO (rung_check.j2 k y0 y1 y2 y3 y4 y5 y6 y7 y8 y9) (rung_check.j2 (k + 1) y0 y1 y2 y3 y4 y5 y6 y7 y8 y9))
  | 0 => ⟨fun _ _ _ _ _ _ r h => by simp [rung_check.l0] at h, fun _ _ _ _ _ _ _ _ _ _ r h => by simp [rung_check.j1] at h, fun _ _ _ _ _ _ _ _ _ _ r h => by simp [rung_check.j2] at h⟩
  | k + 1 => by
    obtain ⟨ih0, ih1, ih2⟩ := rung_check.mono_l k
    refine ⟨?_, ?_, ?_⟩
    · intro y0 y1 y2 y3 y4 y5
      unfold rung_check.l0
      repeat' first
      | (with_reducible exact ih0 _ _ _ _ _ _)
      | (with_reducible exact ih1 _ _ _ _ _ _ _ _ _ _)
      | (with_reducible exact ih2 _ _ _ _ _ _ _ _ _ _)
      | (with_reducible exact rung_Bits.mono _ _)
      | (with_reducible exact rung_code.mono _ _ _ _)
      | (with_reducible exact slices_Contains_string_string.mono _ _ _)
      | (with_reducible exact LeO.refl _)
      | (with_reducible exact LeO.none _)
      | (with_reducible refine LeO.ite ?_ ?_)
      | (with_reducible refine LeO.bind ?_ (fun _ => ?_))
      | exact ih0 _ _ _ _ _ _
      | exact ih1 _ _ _ _ _ _ _ _ _ _
      | exact ih2 _ _ _ _ _ _ _ _ _ _
      | exact rung_Bits.mono _ _
      | exact rung_code.mono _ _ _ _
      | exact slices_Contains_string_string.mono _ _ _
      | exact LeO.none _
      | refine LeO.ite ?_ ?_
      | refine LeO.bind ?_ (fun _ => ?_)
    · intro y0 y1 y2 y3 y4 y5 y6 y7 y8 y9
      unfold rung_check.j1
      repeat' first
      | (with_reducible exact ih0 _ _ _ _ _ _)
      | (with_reducible exact ih1 _ _ _ _ _ _ _ _ _ _)
      | (with_reducible exact ih2 _ _ _ _ _ _ _ _ _ _)
      | (with_reducible exact rung_Bits.mono _ _)
      | (with_reducible exact rung_code.mono _ _ _ _)
      | (with_reducible exact slices_Contains_string_string.mono _ _ _)
      | (with_reducible exact LeO.refl _)
      | (with_reducible exact LeO.none _)
      | (with_reducible refine LeO.ite ?_ ?_)
      | (with_reducible refine LeO.bind ?_ (fun _ => ?_))
      | exact ih0 _ _ _ _ _ _
      | exact ih1 _ _ _ _ _ _ _ _ _ _
      | exact ih2 _ _ _ _ _ _ _ _ _ _
      | exact rung_Bits.mono _ _
      | exact rung_code.mono _ _ _ _
      | exact slices_Contains_string_string.mono _ _ _
      | exact LeO.none _
      | refine LeO.ite ?_ ?_
      | refine LeO.bind ?_ (fun _ => ?_)
    intro y0 y1 y2 y3 y4 y5 y6 y7 y8 y9
    unfold rung_check.j2
    repeat' first
    | (with_reducible exact ih0 _ _ _ _ _ _)
    | (with_reducible exact ih1 _ _ _ _ _ _ _ _ _ _)
    | (with_reducible exact ih2 _ _ _ _ _ _ _ _ _ _)
    | (with_reducible exact rung_Bits.mono _ _)
    | (with_reducible exact rung_code.mono _ _ _ _)
    | (with_reducible exact slices_Contains_string_string.mono _ _ _)
    | (with_reducible exact LeO.refl _)
    | (with_reducible exact LeO.none _)
    | (with_reducible refine LeO.ite ?_ ?_)
    | (with_reducible refine LeO.bind ?_ (fun _ => ?_))
    | exact ih0 _ _ _ _ _ _
    | exact ih1 _ _ _ _ _ _ _ _ _ _
    | exact ih2 _ _ _ _ _ _ _ _ _ _
    | exact rung_Bits.mono _ _
    | exact rung_code.mono _ _ _ _
    | exact slices_Contains_string_string.mono _ _ _
    | exact LeO.none _
    | refine LeO.ite ?_ ?_
    | refine LeO.bind ?_ (fun _ => ?_)
theorem rung_check.mono : ∀ a0 a1 a2 k, LeO (rung_check.f k a0 a1 a2) (rung_check.f (k + 1) a0 a1 a2) := by
  intro a0 a1 a2 k
  obtain ⟨ih0, ih1, ih2⟩ := rung_check.mono_l k
  unfold rung_check.f
  repeat' first
      | (with_reducible exact ih0 _ _ _ _ _ _)
      | (with_reducible exact ih1 _ _ _ _ _ _ _ _ _ _)
      | (with_reducible exact ih2 _ _ _ _ _ _ _ _ _ _)
      | (with_reducible exact rung_Bits.mono _ _)
      | (with_reducible exact rung_code.mono _ _ _ _)
      | (with_reducible exact slices_Contains_string_string.mono _ _ _)
      | (with_reducible exact LeO.refl _)
      | (with_reducible exact LeO.none _)
      | (with_reducible refine LeO.ite ?_ ?_)
      | (with_reducible refine LeO.bind ?_ (fun _ => ?_))
      | exact ih0 _ _ _ _ _ _
      | exact ih1 _ _ _ _ _ _ _ _ _ _
      | exact ih2 _ _ _ _ _ _ _ _ _ _
      | exact rung_Bits.mono _ _
      | exact rung_code.mono _ _ _ _
      | exact slices_Contains_string_string.mono _ _ _
      | exact LeO.none _
      | refine LeO.ite ?_ ?_
      | refine LeO.bind ?_ (fun _ => ?_)
set_option maxHeartbeats 8000000 in
set_option maxRecDepth 100000 in
theorem rung_check.calls (k : Nat) (A0 : Option Addr) (c0 : Nat) (l0 : List (S43)) (A1 : Option Addr) (c1 : Nat) (l1 : List ByteArray) (A2 : Option Addr) (c2 : Nat) (l2 : List ByteArray) (r : Int) (w : World) (hr0 : Kd.C k43 w A0 l0.length l0) (hc0 : l0.length ≤ c0) (hr1 : Kd.C Kd.string w A1 l1.length l1) (hc1 : l1.length ≤ c1) (hr2 : Kd.C Kd.string w A2 l2.length l2) (hc2 : l2.length ≤ c2) (gp : Nat) (hgp : w.heap[gp]? = some (.cells #[.slice A2 l2.length c2] 23 (0, 0))) (h : rung_check.f k l0 l1 l2 = some r) (hN : A1 ≠ none) (hT : UT w) :
  Calls Tryd.prog 59 #[.slice A0 l0.length c0, .slice A1 l1.length c1, .func (.func 60) #[] #[.pointer (some ⟨gp, 0, none⟩)]] w fun e w' => e = .returned (.int .i64 r) ∧ Below w.heap.size w w' := by
 have HGP := Aside0.mk hgp
 clear hgp
 have HT0 := Aside0.mk hT
 clear hT
 have HNL := Aside0.mk hN
 clear hN
 have hu43 := Tryd.underlying43
 have HR0 := Aside0.mk hr0
 have HC0 := Aside0.mk hc0
 clear hr0 hc0
 have HR1 := Aside0.mk hr1
 have HC1 := Aside0.mk hc1
 clear hr1 hc1
 have HR2 := Aside0.mk hr2
 have HC2 := Aside0.mk hc2
 clear hr2 hc2
 have HB := Aside0.mk (Below.refl w.heap.size w)
 have H : (if (l0.length : Int) > 12 then (some 2) else ((rung_Bits.f k l0).bind fun t101 => (rung_check.l0 k l1 l2 t101 l0 (l0.length : Int) 0))) = some r := h
 clear h
 by_cases c4 : (l0.length : Int) > 12
 ·rw [if_pos c4] at H
  have c4b0 : decide (12 < (l0.length : Int)) = true := decide_eq_true c4
  have c4b1 : decide (12 < l0.length) = true := decide_eq_true (by omega)
  clear c4
  obtain rfl := Option.some.inj H
  go_enter Tryd.func59, Tryd.ntmps59
  go_wp2
  go_ret
  exact qr
 rw [if_neg c4] at H
 have c4b0 : decide (12 < (l0.length : Int)) = false := decide_eq_false c4
 have c4b1 : decide (12 < l0.length) = false := decide_eq_false (by omega)
 clear c4
 replace H := qi H
 obtain ⟨t101, A5, H⟩ := H
 have H' := Aside0.mk H
 clear H
 go_enter Tryd.func59, Tryd.ntmps59
 go_wp2_with (first | ((with_reducible refine gate_callee (f := 23) rfl ?_); refine goesL_ (some 15) rfl rfl Tryd.func23 (by kernel_rfl) rfl #[.slice A0 l0.length c0] rfl qm ?_; (with_reducible refine (rung_Bits.calls k _ _ l0 t101 _ ?side1 ?side2 A5.out).mono ?_); (case side1 => repeat (first | exact HR0.out | (with_reducible refine Kd.C_alloc ?_ _) | (with_reducible refine Kd.C_drewN ?_ _) | (with_reducible refine Kd.C_drew ?_))); (case side2 => exact HC0.out); rintro e w6 ⟨v102, rfl, ho0, hb⟩; refine ⟨_, rfl, ?_⟩; have n0_ := Aside0.mk (Kd.R_lower ho0 (below_size qb)); have n1_ := qs hb; clear HB; have HO103 := n0_; have HB := n1_; clear n0_ n1_; (try clear hb); (try clear ho0)))
 go_loopg [18] k (fun kq v18 w' => ∃ (x18_1 : Int), v18 = .int .i64 x18_1 ∧ Aside0 (rung_check.l0 kq l1 l2 t101 l0 (l0.length : Int) x18_1 = some r) ∧ Aside0 (kq ≤ k) ∧ Aside0 (Kd.R Kd.string 9 w' w.heap.size (fun _ => True) v102 t101) ∧ Aside0 (Below w.heap.size w w'))
 case atStart => exact ⟨(0), qv, H', ⟨Nat.le_refl _⟩, ⟨by (with_reducible repeat (first | apply Kd.R_alloc | apply Kd.R_drewN | apply Kd.R_drew)); exact HO103.out⟩, qB⟩
 case round =>
  clear H'
  obtain ⟨x18_1, rfl, HA, HK1, HO_7, HB⟩ := hrel
  cases gk with
  | zero => exact absurd HA.out (by simp [rung_check.l0])
  | succ k1 =>
   have H := HA.out
   clear HA
   simp only [rung_check.l0] at H
   by_cases c7 : x18_1 < (l0.length : Int)
   ·rw [if_pos c7] at H
    have c7b0 : decide (x18_1 < (l0.length : Int)) = true := decide_eq_true c7
    clear c7
    by_cases c8 : 0 ≤ x18_1
    ·rw [if_pos c8] at H
     have c8b0 : decide (0 ≤ x18_1) = true := decide_eq_true c8
     clear c8
     by_cases c9 : x18_1 < (l0.length : Int)
     ·rw [if_pos c9] at H
      have c9b0 : decide (x18_1 < (l0.length : Int)) = true := decide_eq_true c9
      clear c9
      have HC10 := Aside0.mk H
      clear H
      have p104 : 0 ≤ (x18_1 : Int) := qa
      have q104 : x18_1 < (l0.length : Int) := qa
      obtain ⟨ad104, A104_2, c104_2, e104, hx104_0, hx104_1, hx104_2, hl104_2, hi104_2⟩ := at_T43 HR0.out x18_1 p104 q104
      cases e104
      replace hx104_0 := qc HB.out hx104_0
      replace hx104_1 := qc HB.out hx104_1
      replace hx104_2 := qc HB.out hx104_2
      have HR104_2 := Aside0.mk hi104_2
      have HC104_2 := Aside0.mk hl104_2
      clear hi104_2 hl104_2
      replace p104 := eq_true p104
      replace q104 := eq_true q104
      go_upto_region 7 with (first | ((with_reducible refine gate_dst (N := 9) rfl ?_); refine box_event ?hg (N := 9) ?hd (cs := #[.int .i64 0, .string (⟨#[]⟩ : ByteArray), .slice none 0 0]) (t := 43) ?hr ?_; (case hd => rfl); (case hg => rfl); (case hr => first | (go_simp; done) | (go_simp; rfl)); intro gb105 hg w11 hbox hb; have n0_ := Aside0.mk (Kd.R_below (by (with_reducible repeat (first | apply Kd.R_alloc | apply Kd.R_drewN | apply Kd.R_drew)); exact HO_7.out) hb); have n1_ := qs hb; have n2_ := Aside0.mk (hbox); have n3_ := Aside0.mk ((by rw [hg]; exact (below_size qb) : w.heap.size ≤ gb105)); have n4_ := Aside0.mk ((by rw [hg]; exact (below_size qb) : w.heap.size ≤ gb105)); clear HO_7; clear HB; have HO_7 := n0_; have HB := n1_; have BK105 := n2_; have GW105 := n3_; have GE105 := n4_; clear n0_ n1_ n2_ n3_ n4_; clear hb hbox hg; obtain ⟨_, _, _, _, _, _⟩ := q3 BK105.out))
      (try simp only [Act.put, List.setIfInBounds_toArray, List.set_cons_zero, List.set_cons_succ])
      go_cut [35] (fun v35 wc => ∃ (kq : Nat) (x35_9 : Bool), v35 = .bool x35_9 ∧ Aside0 (rung_check.j1 kq l1 l2 t101 l0 (l0.length : Int) x18_1 x35_9 ((rd_T43 l0 x18_1).f0) ((rd_T43 l0 x18_1).f1) ((rd_T43 l0 x18_1).f2) = some r) ∧ Aside0 (kq ≤ k1) ∧ Aside0 (Kd.R Kd.string 9 wc w.heap.size (fun _ => True) v102 t101) ∧ Aside0 (wc.heap[gb105]? = some (.cells #[.int .i64 ((rd_T43 l0 x18_1).f0), .string ((rd_T43 l0 x18_1).f1), (.slice A104_2 ((rd_T43 l0 x18_1).f2).length c104_2)] 43 (0, 0))) ∧ Aside0 (Below w.heap.size w wc))
      case first =>
       have H := HC10.out
       clear HC10
       by_cases c13 : ((rd_T43 l0 x18_1).f0) < 0
       ·rw [if_pos c13] at H
        have c13b0 : decide (((rd_T43 l0 x18_1).f0) < 0) = true := decide_eq_true c13
        clear c13
        (first | rw [c13b0] | (simp only [i64_w, i32_w]; rw [c13b0]) | skip)
        have H' := Aside0.mk H
        clear H
        obtain ⟨_, _, _, _, _, _⟩ := q3 BK105.out
        go_wp2
        go_meet
        case rel => exact ⟨_, (true), qv, H', ⟨by have := HK1.out; first | omega | exact Nat.le_refl _⟩, ⟨by (with_reducible repeat (first | apply Kd.R_alloc | apply Kd.R_drewN | apply Kd.R_drew)); exact Kd.R_mono (Kd.R_far (p := ⟨gb105, 2, none⟩) (Kd.R_far (p := ⟨gb105, 1, none⟩) (Kd.R_far (p := ⟨gb105, 0, none⟩) (Kd.R_types HO_7.out BK105.out (by decide)) (fun _ hk => hk.2) (.int .i64 ((rd_T43 l0 x18_1).f0))) (fun _ hk => hk.2) (.string ((rd_T43 l0 x18_1).f1))) (fun _ hk => hk.2) (.slice A104_2 ((rd_T43 l0 x18_1).f2).length c104_2)) (fun _ hk => trivial)⟩, qY105, qB⟩
       rw [if_neg c13] at H
       have c13b0 : decide (((rd_T43 l0 x18_1).f0) < 0) = false := decide_eq_false c13
       clear c13
       (first | rw [c13b0] | (simp only [i64_w, i32_w]; rw [c13b0]) | skip)
       by_cases c15 : ((rd_T43 l0 x18_1).f0) > 4
       ·rw [if_pos c15] at H
        have c15b0 : decide (4 < ((rd_T43 l0 x18_1).f0)) = true := decide_eq_true c15
        clear c15
        have H' := Aside0.mk H
        clear H
        obtain ⟨_, _, _, _, _, _⟩ := q3 BK105.out
        go_wp2
        go_meet
        case rel => exact ⟨_, (true), qv, H', ⟨by have := HK1.out; first | omega | exact Nat.le_refl _⟩, ⟨by (with_reducible repeat (first | apply Kd.R_alloc | apply Kd.R_drewN | apply Kd.R_drew)); exact Kd.R_mono (Kd.R_far (p := ⟨gb105, 2, none⟩) (Kd.R_far (p := ⟨gb105, 1, none⟩) (Kd.R_far (p := ⟨gb105, 0, none⟩) (Kd.R_types HO_7.out BK105.out (by decide)) (fun _ hk => hk.2) (.int .i64 ((rd_T43 l0 x18_1).f0))) (fun _ hk => hk.2) (.string ((rd_T43 l0 x18_1).f1))) (fun _ hk => hk.2) (.slice A104_2 ((rd_T43 l0 x18_1).f2).length c104_2)) (fun _ hk => trivial)⟩, qY105, qB⟩
       rw [if_neg c15] at H
       have c15b0 : decide (4 < ((rd_T43 l0 x18_1).f0)) = false := decide_eq_false c15
       clear c15
       replace H := qi H
       obtain ⟨t106, A17, H⟩ := H
       have H' := Aside0.mk H
       clear H
       obtain ⟨_, _, _, _, _, _⟩ := q3 BK105.out
       go_wp2_with (first | (go_at_call 91; (with_reducible refine (lex_Name.calls ((rd_T43 l0 x18_1).f1) t106 _ A17.out (by first | exact HT0.out | exact UT.below HT0.out qb)).mono ?_); rintro e w19 ⟨rfl, hb⟩; have n0_ := Aside0.mk (Kd.R_below (by (with_reducible repeat (first | apply Kd.R_alloc | apply Kd.R_drewN | apply Kd.R_drew)); exact (Kd.R_mono (Kd.R_far (p := ⟨gb105, 2, none⟩) (Kd.R_far (p := ⟨gb105, 1, none⟩) (Kd.R_far (p := ⟨gb105, 0, none⟩) (Kd.R_types HO_7.out BK105.out (by decide)) (fun _ hk => hk.2) (.int .i64 ((rd_T43 l0 x18_1).f0))) (fun _ hk => hk.2) (.string ((rd_T43 l0 x18_1).f1))) (fun _ hk => hk.2) (.slice A104_2 ((rd_T43 l0 x18_1).f2).length c104_2)) (fun _ h_ => h_.1))) hb); have n1_ := Aside0.mk (blk_below (g := gb105) (o := .cells #[.int .i64 ((rd_T43 l0 x18_1).f0), .string ((rd_T43 l0 x18_1).f1), .slice A104_2 ((rd_T43 l0 x18_1).f2).length c104_2] 43 (0, 0)) qy105 hb); have n2_ := qs hb; clear HO_7; clear BK105; clear HB; have HO_7 := n0_; have BK105 := n1_; have HB := n2_; clear n0_ n1_ n2_; (try clear hb)))
       go_meet
       case rel => exact ⟨_, (!t106), qv, H', ⟨by have := HK1.out; first | omega | exact Nat.le_refl _⟩, ⟨by (with_reducible repeat (first | apply Kd.R_alloc | apply Kd.R_drewN | apply Kd.R_drew)); exact HO_7.out⟩, qk105, qB⟩
      clear HC10
      obtain ⟨kq, x35_9, rfl, HA, HJ9, HO_7, BK105, HB⟩ := hcut
      cases kq with
      | zero => exact absurd HA.out (by simp [rung_check.j1])
      | succ kj9 =>
       have H := HA.out
       clear HA
       simp only [rung_check.j1] at H
       by_cases c20 : x35_9 = true
       ·subst c20
        rw [if_pos rfl] at H
        obtain rfl := Option.some.inj H
        go_wp2
        go_ret
        exact qr
       replace c20 := Bool.eq_false_iff.mpr c20
       subst c20
       rw [if_neg qf] at H
       have HC21 := Aside0.mk H
       clear H
       go_upto_region 9 with (fail)
       go_cut [45] (fun v45 wc => ∃ (kq : Nat) (x45_20 : Bool), v45 = .bool x45_20 ∧ Aside0 (rung_check.j2 kq l1 l2 t101 l0 (l0.length : Int) x18_1 x45_20 ((rd_T43 l0 x18_1).f0) ((rd_T43 l0 x18_1).f1) ((rd_T43 l0 x18_1).f2) = some r) ∧ Aside0 (kq ≤ kj9) ∧ Aside0 (Kd.R Kd.string 9 wc w.heap.size (fun _ => True) v102 t101) ∧ Aside0 (wc.heap[gb105]? = some (.cells #[.int .i64 ((rd_T43 l0 x18_1).f0), .string ((rd_T43 l0 x18_1).f1), (.slice A104_2 ((rd_T43 l0 x18_1).f2).length c104_2)] 43 (0, 0))) ∧ Aside0 (Below w.heap.size w wc))
       case first =>
        have H := HC21.out
        clear HC21
        by_cases c22 : ((rd_T43 l0 x18_1).f0) ≥ 3
        ·rw [if_pos c22] at H
         have c22b0 : decide (3 ≤ ((rd_T43 l0 x18_1).f0)) = true := decide_eq_true c22
         clear c22
         (first | rw [c22b0] | (simp only [i64_w, i32_w]; rw [c22b0]) | skip)
         replace H := qi H
         obtain ⟨t107, A23, H⟩ := H
         have H' := Aside0.mk H
         clear H
         obtain ⟨_, _, _, _, _, _⟩ := q3 BK105.out
         go_wp2_with (first | (go_at_call 60; (with_reducible refine (check_lit kj9 gp A2 c2 l2 ((rd_T43 l0 x18_1).f1) t107 _ ?side0 ?side1 ?side2 A23.out).mono ?_); (case side0 => exact blk_below HGP.out (by repeat (first | exact HB.out | apply below_alloc | apply pw_below_drewN | apply below_drew1))); (case side1 => exact qC HR2.out); (case side2 => exact HC2.out); rintro e w' ⟨rfl, ⟨nd, rfl⟩⟩))
         go_meet
         case rel => exact ⟨_, (!t107), qv, H', ⟨by have := HK1.out; have := HJ9.out; first | omega | exact Nat.le_refl _⟩, ⟨by (with_reducible repeat (first | apply Kd.R_alloc | apply Kd.R_drewN | apply Kd.R_drew)); exact HO_7.out⟩, qk105, qB⟩
        rw [if_neg c22] at H
        have c22b0 : decide (3 ≤ ((rd_T43 l0 x18_1).f0)) = false := decide_eq_false c22
        clear c22
        (first | rw [c22b0] | (simp only [i64_w, i32_w]; rw [c22b0]) | skip)
        have H' := Aside0.mk H
        clear H
        obtain ⟨_, _, _, _, _, _⟩ := q3 BK105.out
        go_wp2
        go_meet
        case rel => exact ⟨_, (false), qv, H', ⟨by have := HK1.out; have := HJ9.out; first | omega | exact Nat.le_refl _⟩, ⟨by (with_reducible repeat (first | apply Kd.R_alloc | apply Kd.R_drewN | apply Kd.R_drew)); exact HO_7.out⟩, qk105, qB⟩
       clear HC21
       obtain ⟨kq, x45_20, rfl, HA, HJ20, HO_7, BK105, HB⟩ := hcut
       cases kq with
       | zero => exact absurd HA.out (by simp [rung_check.j2])
       | succ kj20 =>
        have H := HA.out
        clear HA
        simp only [rung_check.j2] at H
        by_cases c26 : x45_20 = true
        ·subst c26
         rw [if_pos rfl] at H
         obtain rfl := Option.some.inj H
         go_wp2
         go_ret
         exact qr
        replace c26 := Bool.eq_false_iff.mpr c26
        subst c26
        rw [if_neg qf] at H
        replace H := qi H
        obtain ⟨t108, A27, H⟩ := H
        by_cases c28 : t108 = 0
        ·rw [if_pos c28] at H
         obtain ⟨c28b0, c28b1⟩ := qe c28
         clear c28
         have H' := Aside0.mk H
         clear H
         obtain ⟨_, _, _, _, _, _⟩ := q3 BK105.out
         obtain ⟨Ao30, co30, eo30⟩ := Kd.R_slice HO_7.out
         subst eo30
         go_wp2_with (first | ((with_reducible refine gate_callee (f := 92) rfl ?_); refine goesL_ (some 50) rfl rfl Tryd.func92 (by kernel_rfl) rfl #[.slice A104_2 ((rd_T43 l0 x18_1).f2).length c104_2, .slice Ao30 t101.length co30, .slice A1 l1.length c1] rfl qm ?_; (with_reducible refine (rung_code.calls kj20 _ _ ((rd_T43 l0 x18_1).f2) _ _ t101 _ _ l1 t108 _ ?side1 ?side2 ?side3 ?side4 ?side5 ?side6 A27.out HNL.out (by first | exact HT0.out | exact UT.below HT0.out qb)).mono ?_); (case side1 => exact qC HR104_2.out); (case side2 => exact HC104_2.out); (case side3 => repeat (first | exact (Kd.R_reads' HO_7.out).2.2 | (with_reducible refine Kd.C_alloc ?_ _) | (with_reducible refine Kd.C_drewN ?_ _) | (with_reducible refine Kd.C_drew ?_))); (case side4 => exact (Kd.R_reads' HO_7.out).2.1); (case side5 => exact qC HR1.out); (case side6 => exact HC1.out); rintro e w31 ⟨rfl, hb⟩; refine ⟨_, rfl, ?_⟩; have n0_ := Aside0.mk (Kd.R_below (by (with_reducible repeat (first | apply Kd.R_alloc | apply Kd.R_drewN | apply Kd.R_drew)); exact HO_7.out) hb); have n1_ := qn105 (g := gb105) hb; have n2_ := qs hb; clear HO_7; clear BK105; clear HB; have HO_7 := n0_; have BK105 := n1_; have HB := n2_; clear n0_ n1_ n2_; (try clear hb)))
         go_roundg kj20
         case measure => have := HK1.out; have := HJ9.out; have := HJ20.out; omega
         case rel => exact ⟨(wrap64 (x18_1 + 1)), qv, H', ⟨by have := HK1.out; have := HJ9.out; have := HJ20.out; omega⟩, ⟨by (with_reducible repeat (first | apply Kd.R_alloc | apply Kd.R_drewN | apply Kd.R_drew)); exact HO_7.out⟩, qB⟩
        rw [if_neg c28] at H
        obtain ⟨c28b0, c28b1⟩ := qd c28
        obtain rfl := Option.some.inj H
        obtain ⟨_, _, _, _, _, _⟩ := q3 BK105.out
        obtain ⟨Ao33, co33, eo33⟩ := Kd.R_slice HO_7.out
        subst eo33
        go_wp2_with (first | ((with_reducible refine gate_callee (f := 92) rfl ?_); refine goesL_ (some 50) rfl rfl Tryd.func92 (by kernel_rfl) rfl #[.slice A104_2 ((rd_T43 l0 x18_1).f2).length c104_2, .slice Ao33 t101.length co33, .slice A1 l1.length c1] rfl qm ?_; (with_reducible refine (rung_code.calls kj20 _ _ ((rd_T43 l0 x18_1).f2) _ _ t101 _ _ l1 t108 _ ?side1 ?side2 ?side3 ?side4 ?side5 ?side6 A27.out HNL.out (by first | exact HT0.out | exact UT.below HT0.out qb)).mono ?_); (case side1 => exact qC HR104_2.out); (case side2 => exact HC104_2.out); (case side3 => repeat (first | exact (Kd.R_reads' HO_7.out).2.2 | (with_reducible refine Kd.C_alloc ?_ _) | (with_reducible refine Kd.C_drewN ?_ _) | (with_reducible refine Kd.C_drew ?_))); (case side4 => exact (Kd.R_reads' HO_7.out).2.1); (case side5 => exact qC HR1.out); (case side6 => exact HC1.out); rintro e w34 ⟨rfl, hb⟩; refine ⟨_, rfl, ?_⟩; have n0_ := Aside0.mk (Kd.R_below (by (with_reducible repeat (first | apply Kd.R_alloc | apply Kd.R_drewN | apply Kd.R_drew)); exact HO_7.out) hb); have n1_ := qn105 (g := gb105) hb; have n2_ := qs hb; clear HO_7; clear BK105; clear HB; have HO_7 := n0_; have BK105 := n1_; have HB := n2_; clear n0_ n1_ n2_; (try clear hb)))
        go_ret
        exact qr
     rw [if_neg c9] at H
     exact absurd H (by simp)
    rw [if_neg c8] at H
    exact absurd H (by simp)
   rw [if_neg c7] at H
   have c7b0 : decide (x18_1 < (l0.length : Int)) = false := decide_eq_false c7
   clear c7
   obtain rfl := Option.some.inj H
   go_wp2
   go_ret
   exact qr
def rung_Check.f (k : Nat) (l0 : List (S43)) (l1 l2 : List ByteArray) : Option (Int) := if l1.length < 8796093022208 then rung_check.f k l0 l1 l2 else none
theorem rung_Check.mono : ∀ a0 a1 a2 k, LeO (rung_Check.f k a0 a1 a2) (rung_Check.f (k + 1) a0 a1 a2) := by
  intro a0 a1 a2 k
  unfold rung_Check.f
  exact LeO.ite (rung_check.mono _ _ _ _) (LeO.refl _)
set_option maxHeartbeats 8000000 in
set_option maxRecDepth 100000 in
theorem rung_Check.calls (k : Nat) (A0 : Option Addr) (c0 : Nat) (l0 : List (S43)) (A1 : Option Addr) (c1 : Nat) (l1 : List ByteArray) (A2 : Option Addr) (c2 : Nat) (l2 : List ByteArray) (r : Int) (w : World) (hr0 : Kd.C k43 w A0 l0.length l0) (hc0 : l0.length ≤ c0) (hr1 : Kd.C Kd.string w A1 l1.length l1) (hc1 : l1.length ≤ c1) (hr2 : Kd.C Kd.string w A2 l2.length l2) (hc2 : l2.length ≤ c2) (h : rung_Check.f k l0 l1 l2 = some r) (hT : UT w) :
    Calls Tryd.prog 25 #[.slice A0 l0.length c0, .slice A1 l1.length c1, .slice A2 l2.length c2] w fun e w' => e = .returned (.int .i64 r) ∧ Below w.heap.size w w' := by
  have HT := Aside0.mk hT
  have HR0 := Aside0.mk hr0
  have HC0 := Aside0.mk hc0
  have HR1 := Aside0.mk hr1
  have HC1 := Aside0.mk hc1
  have HR2 := Aside0.mk hr2
  have HC2 := Aside0.mk hc2
  unfold rung_Check.f at h
  by_cases hl : l1.length < 8796093022208
  case neg => rw [if_neg hl] at h; cases h
  rw [if_pos hl] at h
  have HH := Aside0.mk h
  have HL := Aside0.mk hl
  clear hT hr0 hc0 hr1 hc1 hr2 hc2 h hl
  go_enter Tryd.func25, Tryd.ntmps25
  go_wp2_with (first | ((with_reducible refine gate_dst (N := 5) rfl ?_); refine box_event ?hg (N := 5) ?hd (cs := #[.slice A2 l2.length c2]) (t := 23) ?hr ?_; (case hd => rfl); (case hg => rfl); (case hr => first | (go_simp; done) | (go_simp; rfl)); intro gb hg w4 hbox hb; have HB4 := Aside0.mk hb; have HK4 := Aside0.mk hbox; clear hb hg hbox) | ((with_reducible refine gate_builtin (b := .append) (xs := #[.tmp 8, .tmp 9]) rfl ?_); at_builtin; refine Kd.R_append_row Value.string ByteArray.empty (h1 := fun _ => rfl) (w0 := w) w.heap.size rfl (.tmp 8) (.tmp 9) 23 9 (.string ⟨#[]⟩) 16 rfl Tryd.underlying23 info9 rfl (by decide) (.slice (some ⟨w4.heap.size, 0, none⟩) 0 0) [] l1 A1 l1.length c1 (fun _ => True) rfl rfl (fun _ _ => trivial) (Kd.R_of_own (own_lit_of (enc := Value.string) w4 w.heap.size 9 [] HB4.out.size (by simp)) (fun _ _ => trivial)) (Kd.C_alloc (Kd.C_below HR1.out HB4.out) _) (below_alloc HB4.out _) (below_size (below_alloc HB4.out _)) (by have := HL.out; simp; omega) ?_; intro v1 w5 ho hb hg hat; have ho2 : Kd.R Kd.string 9 w5 w.heap.size (fun _ => True) v1 l1 := (by have h9 := ho; rw [List.nil_append] at h9; exact h9); obtain ⟨A5, c5, e5⟩ := Kd.R_slice ho2; subst e5; have hne : A5 ≠ none := (fun e0 => by subst e0; simp [Value.ownBlock] at hat); have HO5 := Aside0.mk ho2; have HN5 := Aside0.mk hne; have HB5 := Aside0.mk hb; have hbk : w5.heap[gb]? = some (.cells #[.slice A2 l2.length c2] 23 (0, 0)) := ((hg.block gb (by have := blk_lt HK4.out; simp; omega) (by have := blk_lt HK4.out; simp [Value.ownBlock]; omega)).trans (heap_alloc_old _ _ (blk_lt HK4.out))).trans HK4.out; have HK5 := Aside0.mk hbk; clear ho ho2 hb hg hat hne hbk) | (go_at_call 59; refine (rung_check.calls k A0 c0 l0 A5 c5 l1 A2 c2 l2 r w5 (Kd.C_below HR0.out HB5.out) HC0.out (Kd.R_reads' HO5.out).2.2 (Kd.R_reads' HO5.out).2.1 (Kd.C_below HR2.out HB5.out) HC2.out gb HK5.out HH.out HN5.out (UT.below HT.out HB5.out)).mono ?_; rintro e w6 ⟨rfl, hb⟩; have HB6 := Aside0.mk (below_step HB5.out hb); clear hb))
  go_ret
  exact ⟨rfl, HB6.out⟩
end Go.Proofs.YtiaccdaeomaogaaDoor.F
