/- Texts of one claim, slimmed and merged by slim.py. -/
import Derived.Test.YtiaccdaeomaogaaDoorR4
import Derived.Test.YtiaccdaeomaogaaDoorR7
import Derived.Test.YtiaccdaeomaogaaDoorR12
import Derived.Test.YtiaccdaeomaogaaDoorR13
import Derived.Test.YtiaccdaeomaogaaDoorR16
import Derived.Test.YtiaccdaeomaogaaDoorR17
namespace Go.Proofs.YtiaccdaeomaogaaDoor.F
open Go.RowKit Go.Proofs.YtiaccdaeomaogaaDoorW.PrintWords Go.Proofs.YtiaccdaeomaogaaDoorW.PrintLast Go.Proofs.YtiaccdaeomaogaaDoorW.PrintMore
attribute [local go_sem] max2_int min2_int max_two min_two max_three min_three max_four min_four   -- for this text's walks alone
set_option linter.unusedVariables false
set_option linter.unusedSimpArgs false
mutual
def rung_checkN.l0 : Nat → List ByteArray → List ByteArray → List (S43) → Int → Int → Option (Int)
  | 0, _, _, _, _, _ => none
  | k + 1, x1, x7, x16, x17, x18 => if x18 < x17 then (if 0 ≤ x18 then (if x18 < (x16.length : Int) then (if ((rd_T43 x16 x18).f0) < 0 then (rung_checkN.j1 k x1 x7 x16 x17 x18 true ((rd_T43 x16 x18).f0) ((rd_T43 x16 x18).f1) ((rd_T43 x16 x18).f2)) else (if ((rd_T43 x16 x18).f0) > 4 then (rung_checkN.j1 k x1 x7 x16 x17 x18 true ((rd_T43 x16 x18).f0) ((rd_T43 x16 x18).f1) ((rd_T43 x16 x18).f2)) else ((lex_Name.f ((rd_T43 x16 x18).f1)).bind fun t106 => (rung_checkN.j1 k x1 x7 x16 x17 x18 (!t106) ((rd_T43 x16 x18).f0) ((rd_T43 x16 x18).f1) ((rd_T43 x16 x18).f2))))) else (none)) else (none)) else (some 0)
def rung_checkN.j1 : Nat → List ByteArray → List ByteArray → List (S43) → Int → Int → Bool → Int → ByteArray → List (S40) → Option (Int)
  | 0, _, _, _, _, _, _, _, _, _ => none
  | k + 1, x1, x7, x16, x17, x18, x35, x106000, x106001, x106002 => if x35 = true then (some 1) else (if x106000 ≥ 3 then (rung_checkN.j2 k x1 x7 x16 x17 x18 (!true) x106000 x106001 x106002) else (rung_checkN.j2 k x1 x7 x16 x17 x18 false x106000 x106001 x106002))
def rung_checkN.j2 : Nat → List ByteArray → List ByteArray → List (S43) → Int → Int → Bool → Int → ByteArray → List (S40) → Option (Int)
  | 0, _, _, _, _, _, _, _, _, _ => none
  | k + 1, x1, x7, x16, x17, x18, x45, x106000, x106001, x106002 => if x45 = true then (some 21) else ((rung_codeN.f k x106002 x7 x1).bind fun t107 => (if t107 = 0 then (rung_checkN.l0 k x1 x7 x16 x17 (wrap64 (x18 + 1))) else (some t107)))
end
def rung_checkN.f (k : Nat) (l0 : List (S43)) (l1 : List ByteArray) (l2 : List ByteArray) : Option (Int) := if (l0.length : Int) > 12 then (some 2) else ((rung_Bits.f k l0).bind fun t101 => (rung_checkN.l0 k l1 t101 l0 (l0.length : Int) 0))
theorem rung_checkN.mono_l : ∀ k, (∀ y0 y1 y2 y3 y4, LeO (rung_checkN.l0 k y0 y1 y2 y3 y4) (rung_checkN.l0 (k + 1) y0 y1 y2 y3 y4)) ∧ (∀ y0 y1 y2 y3 y4 y5 y6 y7 y8, LeO (rung_checkN.j1 k y0 y1 y2 y3 y4 y5 y6 y7 y8) (rung_checkN.j1 (k + 1) y0 y1 y2 y3 y4 y5 y6 y7 y8)) ∧ (∀ y0 y1 y2 y3 y4 y5 y6 y7 y8, LeO (rung_checkN.j2 k y0 y1 y2 y3 y4 y5 y6 y7 y8) (rung_checkN.j2 (k + 1) y0 y1 y2 y3 y4 y5 y6 y7 y8))
  | 0 => ⟨fun _ _ _ _ _ r h => by simp [rung_checkN.l0] at h, fun _ _ _ _ _ _ _ _ _ r h => by simp [rung_checkN.j1] at h, fun _ _ _ _ _ _ _ _ _ r h => by simp [rung_checkN.j2] at h⟩
  | k + 1 => by
    obtain ⟨ih0, ih1, ih2⟩ := rung_checkN.mono_l k
    refine ⟨?_, ?_, ?_⟩
    · intro y0 y1 y2 y3 y4
      unfold rung_checkN.l0
      repeat' first
      | (with_reducible exact ih0 _ _ _ _ _)
      | (with_reducible exact ih1 _ _ _ _ _ _ _ _ _)
      | (with_reducible exact ih2 _ _ _ _ _ _ _ _ _)
      | (with_reducible exact rung_Bits.mono _ _)
      | (with_reducible exact rung_codeN.mono _ _ _ _)
      | (with_reducible exact LeO.refl _)
      | (with_reducible exact LeO.none _)
      | (with_reducible refine LeO.ite ?_ ?_)
      | (with_reducible refine LeO.bind ?_ (fun _ => ?_))
      | exact ih0 _ _ _ _ _
      | exact ih1 _ _ _ _ _ _ _ _ _
      | exact ih2 _ _ _ _ _ _ _ _ _
      | exact rung_Bits.mono _ _
      | exact rung_codeN.mono _ _ _ _
      | exact LeO.none _
      | refine LeO.ite ?_ ?_
      | refine LeO.bind ?_ (fun _ => ?_)
    · intro y0 y1 y2 y3 y4 y5 y6 y7 y8
      unfold rung_checkN.j1
      repeat' first
      | (with_reducible exact ih0 _ _ _ _ _)
      | (with_reducible exact ih1 _ _ _ _ _ _ _ _ _)
      | (with_reducible exact ih2 _ _ _ _ _ _ _ _ _)
      | (with_reducible exact rung_Bits.mono _ _)
      | (with_reducible exact rung_codeN.mono _ _ _ _)
      | (with_reducible exact LeO.refl _)
      | (with_reducible exact LeO.none _)
      | (with_reducible refine LeO.ite ?_ ?_)
      | (with_reducible refine LeO.bind ?_ (fun _ => ?_))
      | exact ih0 _ _ _ _ _
      | exact ih1 _ _ _ _ _ _ _ _ _
      | exact ih2 _ _ _ _ _ _ _ _ _
      | exact rung_Bits.mono _ _
      | exact rung_codeN.mono _ _ _ _
      | exact LeO.none _
      | refine LeO.ite ?_ ?_
      | refine LeO.bind ?_ (fun _ => ?_)
    intro y0 y1 y2 y3 y4 y5 y6 y7 y8
    unfold rung_checkN.j2
    repeat' first
    | (with_reducible exact ih0 _ _ _ _ _)
    | (with_reducible exact ih1 _ _ _ _ _ _ _ _ _)
    | (with_reducible exact ih2 _ _ _ _ _ _ _ _ _)
    | (with_reducible exact rung_Bits.mono _ _)
    | (with_reducible exact rung_codeN.mono _ _ _ _)
    | (with_reducible exact LeO.refl _)
    | (with_reducible exact LeO.none _)
    | (with_reducible refine LeO.ite ?_ ?_)
    | (with_reducible refine LeO.bind ?_ (fun _ => ?_))
    | exact ih0 _ _ _ _ _
    | exact ih1 _ _ _ _ _ _ _ _ _
    | exact ih2 _ _ _ _ _ _ _ _ _
    | exact rung_Bits.mono _ _
    | exact rung_codeN.mono _ _ _ _
    | exact LeO.none _
    | refine LeO.ite ?_ ?_
    | refine LeO.bind ?_ (fun _ => ?_)
theorem rung_checkN.mono : ∀ a0 a1 a2 k, LeO (rung_checkN.f k a0 a1 a2) (rung_checkN.f (k + 1) a0 a1 a2) := by
  intro a0 a1 a2 k
  obtain ⟨ih0, ih1, ih2⟩ := rung_checkN.mono_l k
  unfold rung_checkN.f
  repeat' first
      | (with_reducible exact ih0 _ _ _ _ _)
      | (with_reducible exact ih1 _ _ _ _ _ _ _ _ _)
      | (with_reducible exact ih2 _ _ _ _ _ _ _ _ _)
      | (with_reducible exact rung_Bits.mono _ _)
      | (with_reducible exact rung_codeN.mono _ _ _ _)
      | (with_reducible exact LeO.refl _)
      | (with_reducible exact LeO.none _)
      | (with_reducible refine LeO.ite ?_ ?_)
      | (with_reducible refine LeO.bind ?_ (fun _ => ?_))
      | exact ih0 _ _ _ _ _
      | exact ih1 _ _ _ _ _ _ _ _ _
      | exact ih2 _ _ _ _ _ _ _ _ _
      | exact rung_Bits.mono _ _
      | exact rung_codeN.mono _ _ _ _
      | exact LeO.none _
      | refine LeO.ite ?_ ?_
      | refine LeO.bind ?_ (fun _ => ?_)
set_option maxHeartbeats 8000000 in
set_option maxRecDepth 100000 in
theorem rung_checkN.calls (k : Nat) (A0 : Option Addr) (c0 : Nat) (l0 : List (S43)) (A1 : Option Addr) (c1 : Nat) (l1 : List ByteArray) (l2 : List ByteArray) (r : Int) (w : World) (hr0 : Kd.C k43 w A0 l0.length l0) (hc0 : l0.length ≤ c0) (hr1 : Kd.C Kd.string w A1 l1.length l1) (hc1 : l1.length ≤ c1) (h : rung_checkN.f k l0 l1 l2 = some r) (hN : A1 = none) (hT : UT w) :
  Calls Tryd.prog 59 #[.slice A0 l0.length c0, .slice A1 l1.length c1, .func (.func 66) #[] #[]] w fun e w' => e = .returned (.int .i64 r) ∧ Below w.heap.size w w' := by
 have HT0 := Aside0.mk hT
 clear hT
 have HNL := Aside0.mk hN
 clear hN
 have hu43 := Tryd.underlying43
 have HR0 := Aside0.mk hr0
 have HC0 := Aside0.mk hc0
 clear hr0 hc0
 have HR1 := Aside0.mk hr1
 have HC1 := Aside0.mk hc1
 clear hr1 hc1
 have HB := Aside0.mk (Below.refl w.heap.size w)
 have H : (if (l0.length : Int) > 12 then (some 2) else ((rung_Bits.f k l0).bind fun t101 => (rung_checkN.l0 k l1 t101 l0 (l0.length : Int) 0))) = some r := h
 clear h
 by_cases c4 : (l0.length : Int) > 12
 ·rw [if_pos c4] at H
  have c4b0 : decide (12 < (l0.length : Int)) = true := decide_eq_true c4
  have c4b1 : decide (12 < l0.length) = true := decide_eq_true (by omega)
  clear c4
  obtain rfl := Option.some.inj H
  go_enter Tryd.func59, Tryd.ntmps59
  go_wp2_with (first | (go_at_call 66; (with_reducible refine (all_lit _ _).mono ?_); rintro e w' ⟨rfl, ⟨nd, rfl⟩⟩))
  go_ret
  exact qr
 rw [if_neg c4] at H
 have c4b0 : decide (12 < (l0.length : Int)) = false := decide_eq_false c4
 have c4b1 : decide (12 < l0.length) = false := decide_eq_false (by omega)
 clear c4
 replace H := qi H
 obtain ⟨t101, A5, H⟩ := H
 have H' := Aside0.mk H
 clear H
 go_enter Tryd.func59, Tryd.ntmps59
 go_wp2_with (first | (go_at_call 66; (with_reducible refine (all_lit _ _).mono ?_); rintro e w' ⟨rfl, ⟨nd, rfl⟩⟩) | ((with_reducible refine gate_callee (f := 23) rfl ?_); refine goesL_ (some 15) rfl rfl Tryd.func23 (by kernel_rfl) rfl #[.slice A0 l0.length c0] rfl qm ?_; (with_reducible refine (rung_Bits.calls k _ _ l0 t101 _ ?side1 ?side2 A5.out).mono ?_); (case side1 => repeat (first | exact HR0.out | (with_reducible refine Kd.C_alloc ?_ _) | (with_reducible refine Kd.C_drewN ?_ _) | (with_reducible refine Kd.C_drew ?_))); (case side2 => exact HC0.out); rintro e w6 ⟨v102, rfl, ho0, hb⟩; refine ⟨_, rfl, ?_⟩; have n0_ := Aside0.mk (Kd.R_lower ho0 (below_size qb)); have n1_ := qs hb; clear HB; have HO103 := n0_; have HB := n1_; clear n0_ n1_; (try clear hb); (try clear ho0)))
 go_loopg [18] k (fun kq v18 w' => ∃ (x18_1 : Int), v18 = .int .i64 x18_1 ∧ Aside0 (rung_checkN.l0 kq l1 t101 l0 (l0.length : Int) x18_1 = some r) ∧ Aside0 (kq ≤ k) ∧ Aside0 (Kd.R Kd.string 9 w' w.heap.size (fun _ => True) v102 t101) ∧ Aside0 (Below w.heap.size w w'))
 case atStart => exact ⟨(0), qv, H', ⟨Nat.le_refl _⟩, ⟨by (with_reducible repeat (first | apply Kd.R_alloc | apply Kd.R_drewN | apply Kd.R_drew)); exact HO103.out⟩, qB⟩
 case round =>
  clear H'
  obtain ⟨x18_1, rfl, HA, HK1, HO_7, HB⟩ := hrel
  cases gk with
  | zero => exact absurd HA.out (by simp [rung_checkN.l0])
  | succ k1 =>
   have H := HA.out
   clear HA
   simp only [rung_checkN.l0] at H
   by_cases c7 : x18_1 < (l0.length : Int)
   ·rw [if_pos c7] at H
    have c7b0 : decide (x18_1 < (l0.length : Int)) = true := decide_eq_true c7
    clear c7
    by_cases c8 : 0 ≤ x18_1
    ·rw [if_pos c8] at H
     have c8b0 : decide (0 ≤ x18_1) = true := decide_eq_true c8
     clear c8
     by_cases c9 : x18_1 < (l0.length : Int)
     ·rw [if_pos c9] at H
      have c9b0 : decide (x18_1 < (l0.length : Int)) = true := decide_eq_true c9
      clear c9
      have HC10 := Aside0.mk H
      clear H
      have p104 : 0 ≤ (x18_1 : Int) := qa
      have q104 : x18_1 < (l0.length : Int) := qa
      obtain ⟨ad104, A104_2, c104_2, e104, hx104_0, hx104_1, hx104_2, hl104_2, hi104_2⟩ := at_T43 HR0.out x18_1 p104 q104
      cases e104
      replace hx104_0 := qc HB.out hx104_0
      replace hx104_1 := qc HB.out hx104_1
      replace hx104_2 := qc HB.out hx104_2
      have HR104_2 := Aside0.mk hi104_2
      have HC104_2 := Aside0.mk hl104_2
      clear hi104_2 hl104_2
      replace p104 := eq_true p104
      replace q104 := eq_true q104
      go_upto_region 7 with (first | ((with_reducible refine gate_dst (N := 9) rfl ?_); refine box_event ?hg (N := 9) ?hd (cs := #[.int .i64 0, .string (⟨#[]⟩ : ByteArray), .slice none 0 0]) (t := 43) ?hr ?_; (case hd => rfl); (case hg => rfl); (case hr => first | (go_simp; done) | (go_simp; rfl)); intro gb105 hg w11 hbox hb; have n0_ := Aside0.mk (Kd.R_below (by (with_reducible repeat (first | apply Kd.R_alloc | apply Kd.R_drewN | apply Kd.R_drew)); exact HO_7.out) hb); have n1_ := qs hb; have n2_ := Aside0.mk (hbox); have n3_ := Aside0.mk ((by rw [hg]; exact (below_size qb) : w.heap.size ≤ gb105)); have n4_ := Aside0.mk ((by rw [hg]; exact (below_size qb) : w.heap.size ≤ gb105)); clear HO_7; clear HB; have HO_7 := n0_; have HB := n1_; have BK105 := n2_; have GW105 := n3_; have GE105 := n4_; clear n0_ n1_ n2_ n3_ n4_; clear hb hbox hg; obtain ⟨_, _, _, _, _, _⟩ := q3 BK105.out))
      (try simp only [Act.put, List.setIfInBounds_toArray, List.set_cons_zero, List.set_cons_succ])
      go_cut [35] (fun v35 wc => ∃ (kq : Nat) (x35_9 : Bool), v35 = .bool x35_9 ∧ Aside0 (rung_checkN.j1 kq l1 t101 l0 (l0.length : Int) x18_1 x35_9 ((rd_T43 l0 x18_1).f0) ((rd_T43 l0 x18_1).f1) ((rd_T43 l0 x18_1).f2) = some r) ∧ Aside0 (kq ≤ k1) ∧ Aside0 (Kd.R Kd.string 9 wc w.heap.size (fun _ => True) v102 t101) ∧ Aside0 (wc.heap[gb105]? = some (.cells #[.int .i64 ((rd_T43 l0 x18_1).f0), .string ((rd_T43 l0 x18_1).f1), (.slice A104_2 ((rd_T43 l0 x18_1).f2).length c104_2)] 43 (0, 0))) ∧ Aside0 (Below w.heap.size w wc))
      case first =>
       have H := HC10.out
       clear HC10
       by_cases c13 : ((rd_T43 l0 x18_1).f0) < 0
       ·rw [if_pos c13] at H
        have c13b0 : decide (((rd_T43 l0 x18_1).f0) < 0) = true := decide_eq_true c13
        clear c13
        (first | rw [c13b0] | (simp only [i64_w, i32_w]; rw [c13b0]) | skip)
        have H' := Aside0.mk H
        clear H
        obtain ⟨_, _, _, _, _, _⟩ := q3 BK105.out
        go_wp2_with (first | (go_at_call 66; (with_reducible refine (all_lit _ _).mono ?_); rintro e w' ⟨rfl, ⟨nd, rfl⟩⟩))
        go_meet
        case rel => exact ⟨_, (true), qv, H', ⟨by have := HK1.out; first | omega | exact Nat.le_refl _⟩, ⟨by (with_reducible repeat (first | apply Kd.R_alloc | apply Kd.R_drewN | apply Kd.R_drew)); exact Kd.R_mono (Kd.R_far (p := ⟨gb105, 2, none⟩) (Kd.R_far (p := ⟨gb105, 1, none⟩) (Kd.R_far (p := ⟨gb105, 0, none⟩) (Kd.R_types HO_7.out BK105.out (by decide)) (fun _ hk => hk.2) (.int .i64 ((rd_T43 l0 x18_1).f0))) (fun _ hk => hk.2) (.string ((rd_T43 l0 x18_1).f1))) (fun _ hk => hk.2) (.slice A104_2 ((rd_T43 l0 x18_1).f2).length c104_2)) (fun _ hk => trivial)⟩, qY105, qB⟩
       rw [if_neg c13] at H
       have c13b0 : decide (((rd_T43 l0 x18_1).f0) < 0) = false := decide_eq_false c13
       clear c13
       (first | rw [c13b0] | (simp only [i64_w, i32_w]; rw [c13b0]) | skip)
       by_cases c15 : ((rd_T43 l0 x18_1).f0) > 4
       ·rw [if_pos c15] at H
        have c15b0 : decide (4 < ((rd_T43 l0 x18_1).f0)) = true := decide_eq_true c15
        clear c15
        have H' := Aside0.mk H
        clear H
        obtain ⟨_, _, _, _, _, _⟩ := q3 BK105.out
        go_wp2_with (first | (go_at_call 66; (with_reducible refine (all_lit _ _).mono ?_); rintro e w' ⟨rfl, ⟨nd, rfl⟩⟩))
        go_meet
        case rel => exact ⟨_, (true), qv, H', ⟨by have := HK1.out; first | omega | exact Nat.le_refl _⟩, ⟨by (with_reducible repeat (first | apply Kd.R_alloc | apply Kd.R_drewN | apply Kd.R_drew)); exact Kd.R_mono (Kd.R_far (p := ⟨gb105, 2, none⟩) (Kd.R_far (p := ⟨gb105, 1, none⟩) (Kd.R_far (p := ⟨gb105, 0, none⟩) (Kd.R_types HO_7.out BK105.out (by decide)) (fun _ hk => hk.2) (.int .i64 ((rd_T43 l0 x18_1).f0))) (fun _ hk => hk.2) (.string ((rd_T43 l0 x18_1).f1))) (fun _ hk => hk.2) (.slice A104_2 ((rd_T43 l0 x18_1).f2).length c104_2)) (fun _ hk => trivial)⟩, qY105, qB⟩
       rw [if_neg c15] at H
       have c15b0 : decide (4 < ((rd_T43 l0 x18_1).f0)) = false := decide_eq_false c15
       clear c15
       replace H := qi H
       obtain ⟨t106, A17, H⟩ := H
       have H' := Aside0.mk H
       clear H
       obtain ⟨_, _, _, _, _, _⟩ := q3 BK105.out
       go_wp2_with (first | (go_at_call 66; (with_reducible refine (all_lit _ _).mono ?_); rintro e w' ⟨rfl, ⟨nd, rfl⟩⟩) | (go_at_call 91; (with_reducible refine (lex_Name.calls ((rd_T43 l0 x18_1).f1) t106 _ A17.out (by first | exact HT0.out | exact UT.below HT0.out qb)).mono ?_); rintro e w19 ⟨rfl, hb⟩; have n0_ := Aside0.mk (Kd.R_below (by (with_reducible repeat (first | apply Kd.R_alloc | apply Kd.R_drewN | apply Kd.R_drew)); exact (Kd.R_mono (Kd.R_far (p := ⟨gb105, 2, none⟩) (Kd.R_far (p := ⟨gb105, 1, none⟩) (Kd.R_far (p := ⟨gb105, 0, none⟩) (Kd.R_types HO_7.out BK105.out (by decide)) (fun _ hk => hk.2) (.int .i64 ((rd_T43 l0 x18_1).f0))) (fun _ hk => hk.2) (.string ((rd_T43 l0 x18_1).f1))) (fun _ hk => hk.2) (.slice A104_2 ((rd_T43 l0 x18_1).f2).length c104_2)) (fun _ h_ => h_.1))) hb); have n1_ := Aside0.mk (blk_below (g := gb105) (o := .cells #[.int .i64 ((rd_T43 l0 x18_1).f0), .string ((rd_T43 l0 x18_1).f1), .slice A104_2 ((rd_T43 l0 x18_1).f2).length c104_2] 43 (0, 0)) qy105 hb); have n2_ := qs hb; clear HO_7; clear BK105; clear HB; have HO_7 := n0_; have BK105 := n1_; have HB := n2_; clear n0_ n1_ n2_; (try clear hb)))
       go_meet
       case rel => exact ⟨_, (!t106), qv, H', ⟨by have := HK1.out; first | omega | exact Nat.le_refl _⟩, ⟨by (with_reducible repeat (first | apply Kd.R_alloc | apply Kd.R_drewN | apply Kd.R_drew)); exact HO_7.out⟩, qk105, qB⟩
      clear HC10
      obtain ⟨kq, x35_9, rfl, HA, HJ9, HO_7, BK105, HB⟩ := hcut
      cases kq with
      | zero => exact absurd HA.out (by simp [rung_checkN.j1])
      | succ kj9 =>
       have H := HA.out
       clear HA
       simp only [rung_checkN.j1] at H
       by_cases c20 : x35_9 = true
       ·subst c20
        rw [if_pos rfl] at H
        obtain rfl := Option.some.inj H
        go_wp2_with (first | (go_at_call 66; (with_reducible refine (all_lit _ _).mono ?_); rintro e w' ⟨rfl, ⟨nd, rfl⟩⟩))
        go_ret
        exact qr
       replace c20 := Bool.eq_false_iff.mpr c20
       subst c20
       rw [if_neg qf] at H
       have HC21 := Aside0.mk H
       clear H
       go_upto_region 9 with (fail)
       go_cut [45] (fun v45 wc => ∃ (kq : Nat) (x45_20 : Bool), v45 = .bool x45_20 ∧ Aside0 (rung_checkN.j2 kq l1 t101 l0 (l0.length : Int) x18_1 x45_20 ((rd_T43 l0 x18_1).f0) ((rd_T43 l0 x18_1).f1) ((rd_T43 l0 x18_1).f2) = some r) ∧ Aside0 (kq ≤ kj9) ∧ Aside0 (Kd.R Kd.string 9 wc w.heap.size (fun _ => True) v102 t101) ∧ Aside0 (wc.heap[gb105]? = some (.cells #[.int .i64 ((rd_T43 l0 x18_1).f0), .string ((rd_T43 l0 x18_1).f1), (.slice A104_2 ((rd_T43 l0 x18_1).f2).length c104_2)] 43 (0, 0))) ∧ Aside0 (Below w.heap.size w wc))
       case first =>
        have H := HC21.out
        clear HC21
        by_cases c22 : ((rd_T43 l0 x18_1).f0) ≥ 3
        ·rw [if_pos c22] at H
         have c22b0 : decide (3 ≤ ((rd_T43 l0 x18_1).f0)) = true := decide_eq_true c22
         clear c22
         (first | rw [c22b0] | (simp only [i64_w, i32_w]; rw [c22b0]) | skip)
         have H' := Aside0.mk H
         clear H
         obtain ⟨_, _, _, _, _, _⟩ := q3 BK105.out
         go_wp2_with (first | (go_at_call 66; (with_reducible refine (all_lit _ _).mono ?_); rintro e w' ⟨rfl, ⟨nd, rfl⟩⟩))
         go_meet
         case rel => exact ⟨_, (!true), qv, H', ⟨by have := HK1.out; have := HJ9.out; first | omega | exact Nat.le_refl _⟩, ⟨by (with_reducible repeat (first | apply Kd.R_alloc | apply Kd.R_drewN | apply Kd.R_drew)); exact HO_7.out⟩, qk105, qB⟩
        rw [if_neg c22] at H
        have c22b0 : decide (3 ≤ ((rd_T43 l0 x18_1).f0)) = false := decide_eq_false c22
        clear c22
        (first | rw [c22b0] | (simp only [i64_w, i32_w]; rw [c22b0]) | skip)
        have H' := Aside0.mk H
        clear H
        obtain ⟨_, _, _, _, _, _⟩ := q3 BK105.out
        go_wp2_with (first | (go_at_call 66; (with_reducible refine (all_lit _ _).mono ?_); rintro e w' ⟨rfl, ⟨nd, rfl⟩⟩))
        go_meet
        case rel => exact ⟨_, (false), qv, H', ⟨by have := HK1.out; have := HJ9.out; first | omega | exact Nat.le_refl _⟩, ⟨by (with_reducible repeat (first | apply Kd.R_alloc | apply Kd.R_drewN | apply Kd.R_drew)); exact HO_7.out⟩, qk105, qB⟩
       clear HC21
       obtain ⟨kq, x45_20, rfl, HA, HJ20, HO_7, BK105, HB⟩ := hcut
       cases kq with
       | zero => exact absurd HA.out (by simp [rung_checkN.j2])
       | succ kj20 =>
        have H := HA.out
        clear HA
        simp only [rung_checkN.j2] at H
        by_cases c25 : x45_20 = true
        ·subst c25
         rw [if_pos rfl] at H
         obtain rfl := Option.some.inj H
         go_wp2_with (first | (go_at_call 66; (with_reducible refine (all_lit _ _).mono ?_); rintro e w' ⟨rfl, ⟨nd, rfl⟩⟩))
         go_ret
         exact qr
        replace c25 := Bool.eq_false_iff.mpr c25
        subst c25
        rw [if_neg qf] at H
        replace H := qi H
        obtain ⟨t107, A26, H⟩ := H
        by_cases c27 : t107 = 0
        ·rw [if_pos c27] at H
         obtain ⟨c27b0, c27b1⟩ := qe c27
         clear c27
         have H' := Aside0.mk H
         clear H
         obtain ⟨_, _, _, _, _, _⟩ := q3 BK105.out
         obtain ⟨Ao29, co29, eo29⟩ := Kd.R_slice HO_7.out
         subst eo29
         go_wp2_with (first | (go_at_call 66; (with_reducible refine (all_lit _ _).mono ?_); rintro e w' ⟨rfl, ⟨nd, rfl⟩⟩) | ((with_reducible refine gate_callee (f := 92) rfl ?_); refine goesL_ (some 50) rfl rfl Tryd.func92 (by kernel_rfl) rfl #[.slice A104_2 ((rd_T43 l0 x18_1).f2).length c104_2, .slice Ao29 t101.length co29, .slice A1 l1.length c1] rfl qm ?_; (with_reducible refine (rung_codeN.calls kj20 _ _ ((rd_T43 l0 x18_1).f2) _ _ t101 _ _ l1 t107 _ ?side1 ?side2 ?side3 ?side4 ?side5 ?side6 A26.out HNL.out (by first | exact HT0.out | exact UT.below HT0.out qb)).mono ?_); (case side1 => exact qC HR104_2.out); (case side2 => exact HC104_2.out); (case side3 => repeat (first | exact (Kd.R_reads' HO_7.out).2.2 | (with_reducible refine Kd.C_alloc ?_ _) | (with_reducible refine Kd.C_drewN ?_ _) | (with_reducible refine Kd.C_drew ?_))); (case side4 => exact (Kd.R_reads' HO_7.out).2.1); (case side5 => exact qC HR1.out); (case side6 => exact HC1.out); rintro e w30 ⟨rfl, hb⟩; refine ⟨_, rfl, ?_⟩; have n0_ := Aside0.mk (Kd.R_below (by (with_reducible repeat (first | apply Kd.R_alloc | apply Kd.R_drewN | apply Kd.R_drew)); exact HO_7.out) hb); have n1_ := qn105 (g := gb105) hb; have n2_ := qs hb; clear HO_7; clear BK105; clear HB; have HO_7 := n0_; have BK105 := n1_; have HB := n2_; clear n0_ n1_ n2_; (try clear hb)))
         go_roundg kj20
         case measure => have := HK1.out; have := HJ9.out; have := HJ20.out; omega
         case rel => exact ⟨(wrap64 (x18_1 + 1)), qv, H', ⟨by have := HK1.out; have := HJ9.out; have := HJ20.out; omega⟩, ⟨by (with_reducible repeat (first | apply Kd.R_alloc | apply Kd.R_drewN | apply Kd.R_drew)); exact HO_7.out⟩, qB⟩
        rw [if_neg c27] at H
        obtain ⟨c27b0, c27b1⟩ := qd c27
        obtain rfl := Option.some.inj H
        obtain ⟨_, _, _, _, _, _⟩ := q3 BK105.out
        obtain ⟨Ao32, co32, eo32⟩ := Kd.R_slice HO_7.out
        subst eo32
        go_wp2_with (first | (go_at_call 66; (with_reducible refine (all_lit _ _).mono ?_); rintro e w' ⟨rfl, ⟨nd, rfl⟩⟩) | ((with_reducible refine gate_callee (f := 92) rfl ?_); refine goesL_ (some 50) rfl rfl Tryd.func92 (by kernel_rfl) rfl #[.slice A104_2 ((rd_T43 l0 x18_1).f2).length c104_2, .slice Ao32 t101.length co32, .slice A1 l1.length c1] rfl qm ?_; (with_reducible refine (rung_codeN.calls kj20 _ _ ((rd_T43 l0 x18_1).f2) _ _ t101 _ _ l1 t107 _ ?side1 ?side2 ?side3 ?side4 ?side5 ?side6 A26.out HNL.out (by first | exact HT0.out | exact UT.below HT0.out qb)).mono ?_); (case side1 => exact qC HR104_2.out); (case side2 => exact HC104_2.out); (case side3 => repeat (first | exact (Kd.R_reads' HO_7.out).2.2 | (with_reducible refine Kd.C_alloc ?_ _) | (with_reducible refine Kd.C_drewN ?_ _) | (with_reducible refine Kd.C_drew ?_))); (case side4 => exact (Kd.R_reads' HO_7.out).2.1); (case side5 => exact qC HR1.out); (case side6 => exact HC1.out); rintro e w33 ⟨rfl, hb⟩; refine ⟨_, rfl, ?_⟩; have n0_ := Aside0.mk (Kd.R_below (by (with_reducible repeat (first | apply Kd.R_alloc | apply Kd.R_drewN | apply Kd.R_drew)); exact HO_7.out) hb); have n1_ := qn105 (g := gb105) hb; have n2_ := qs hb; clear HO_7; clear BK105; clear HB; have HO_7 := n0_; have BK105 := n1_; have HB := n2_; clear n0_ n1_ n2_; (try clear hb)))
        go_ret
        exact qr
     rw [if_neg c9] at H
     exact absurd H (by simp)
    rw [if_neg c8] at H
    exact absurd H (by simp)
   rw [if_neg c7] at H
   have c7b0 : decide (x18_1 < (l0.length : Int)) = false := decide_eq_false c7
   clear c7
   obtain rfl := Option.some.inj H
   go_wp2_with (first | (go_at_call 66; (with_reducible refine (all_lit _ _).mono ?_); rintro e w' ⟨rfl, ⟨nd, rfl⟩⟩))
   go_ret
   exact qr
end Go.Proofs.YtiaccdaeomaogaaDoor.F
namespace Go.Proofs.YtiaccdaeomaogaaDoor.F
open Go.RowKit Go.Proofs.YtiaccdaeomaogaaDoorW.PrintWords Go.Proofs.YtiaccdaeomaogaaDoorW.PrintLast Go.Proofs.YtiaccdaeomaogaaDoorW.PrintMore
set_option linter.unusedVariables false
set_option linter.unusedSimpArgs false
section
variable {W w w1 : World} {g : Nat} {nm : List ByteArray} {bs : List Bool} {en : List S69} {st : List Bool} {AN : Option Addr} {cN : Nat} {AB : Option Addr} {cB : Nat} {AE : Option Addr} {cE : Nat} {AS : Option Addr} {cS : Nat}
theorem R_keepT {base : Nat} {v : Value} {xs : List ByteArray} {ok : Nat → Prop} {cs : Array Value} (h : Kd.R Kd.string 9 w base ok v xs) (hk : KeepT w w1 g) (hg : w.heap[g]? = some (.cells cs 105 (0, 0))) : Kd.R Kd.string 9 w1 base ok v xs := by
 refine Kd.R_reok rfl (Kd.R_step (Kd.R_tight rfl h) (fun k hk2 hlt => ?_)) h.1
 obtain ⟨cells, hc⟩ := own_typed (Kd.own_of_R h) k hk2.symm
 rw [hc]
 refine hk.2 k _ (fun e => ?_) hc (fun cells' e => ?_)
 ·subst e
  rw [hc] at hg
  injection hg with hg
  injection hg with _ hg _
  cases hg
 injection e with _ e _
 cases e
theorem blk_keepT {b : Nat} {t : Nat} {cs cs' : Array Value} (h : w.heap[b]? = some (.cells cs t (0, 0))) (hk : KeepT w w1 g) (ht : t ≠ 4) (hg : w.heap[g]? = some (.cells cs' 105 (0, 0))) (htg : t ≠ 105) : w1.heap[b]? = some (.cells cs t (0, 0)) := by
 refine hk.2 b _ (fun e => ?_) h (fun cells' e => ?_)
 ·subst e
  rw [h] at hg
  injection hg with hg
  injection hg with _ hg _
  exact htg hg
 injection e with _ e _
 exact ht e
theorem Mach.nil_ (h : Mach W w g nm bs en st AN cN AB cB AE cE AS cS) : Mach W (w.setCell ⟨g, 3, none⟩ (.slice none 0 0)) g nm bs en [] AN cN AB cB AE cE none 0 ∧ KeepT w (w.setCell ⟨g, 3, none⟩ (.slice none 0 0)) g := by
  have b2 := blk_set h.blk 3 (.slice none 0 0)
  have ty : ∀ {e : Nat} {α : Type} {enc : α → Value} {h1 : ∀ x, (enc x).oneCell' = true} {v : Value} {xs : List α} {ok : Nat → Prop}, (Kd.scalar enc h1).R e w W.heap.size ok v xs → e ≠ 105 → (Kd.scalar enc h1).R e (w.setCell ⟨g, 3, none⟩ (.slice none 0 0)) W.heap.size ok v xs := fun {e α enc h1 v xs ok} hr hne => by
    refine Kd.R_mono (Kd.R_set hr h.blk (fun q hq => ?_) 3 _) (fun _ h => h)
    have : q = e := by simpa [Kd.scalar] using hq
    rw [this]; exact hne
  exact ⟨⟨h.below.setCell (p := ⟨g, 3, none⟩) h.hg _, h.hg, b2, ty h.nms (by decide), ty h.bts (by decide), h.env, Kd.R_nil _ _ _ _ _⟩, ⟨by simp [World.setCell], fun i o hi ho _ => (Below.heap_setCell w ⟨g, 3, none⟩ _ i hi).trans ho⟩⟩
theorem Mach.bit_ {gb : Nat} (h : Mach W w g nm bs en st AN cN (some ⟨gb, 0, none⟩) cB AE cE AS cS) (i : Int) (b : Bool) (hgb : W.heap.size ≤ gb) : Mach W (w.setCell ⟨gb, i.toNat, none⟩ (.bool b)) g nm (bs.set i.toNat b) en st AN cN (some ⟨gb, 0, none⟩) cB AE cE AS cS ∧ KeepT w (w.setCell ⟨gb, i.toNat, none⟩ (.bool b)) g := by
 obtain ⟨hs, hgr⟩ := Kd.R_put h.bts i b
 obtain ⟨cells, hty⟩ := own_typed (Kd.own_of_R h.bts) gb rfl
 have hne : g ≠ gb := fun e => by
  subst e
  rw [h.blk] at hty
  injection hty with hty
  injection hty with _ hty _
  cases hty
 have hblk := (hgr.block g (blk_lt h.blk) (by simpa using hne)).trans h.blk
 refine ⟨⟨h.below.setCell (p := ⟨gb, i.toNat, none⟩) hgb _, h.hg, by rw [List.length_set]; exact hblk, ?_, by rw [List.length_set]; exact hs, h.env, ?_⟩, ⟨hgr.size, fun j o hj ho ht => (hgr.block j (blk_lt ho) (fun e => ?_)).trans ho⟩⟩
 ·refine Kd.R_mono (Kd.R_grown (Kd.R_tight rfl h.nms) hgr (fun k hk e => ?_)) (fun _ _ => trivial)
  obtain ⟨cells', hc'⟩ := own_typed (Kd.own_of_R h.nms) k hk.symm
  injection e with e
  subst e
  rw [hty] at hc'
  injection hc' with hc'
  injection hc' with _ hc' _
  cases hc'
 ·rw [List.length_set]
  refine Kd.R_reok rfl (Kd.R_grown (Kd.R_tight rfl h.stk) hgr (fun k hk e => ?_)) h.stk.1
  injection e with e
  subst e
  exact h.stk.1 _ hk.symm rfl
 injection e with e
 subst e
 rw [hty] at ho
 injection ho with ho
 exact ht _ ho.symm
theorem Mach.names_ {u : Value} {hs : List ByteArray} {ok : Nat → Prop} (h : Mach W w g nm bs en st AN cN AB cB AE cE AS cS) (hu : Kd.R Kd.string 9 w W.heap.size ok u hs) (hne : ∀ k, u.ownBlock = some k → some k ≠ (Value.slice AN nm.length cN).ownBlock) (hB : Below W.heap.size W w1) (hk : Kept w w1 (fun k => some k = u.ownBlock)) : Mach W w1 g nm bs en st AN cN AB cB AE cE AS cS := by
 have hty : ∀ k, some k = u.ownBlock → ∃ cells, w.heap[k]? = some (.cells cells 9 (0, 0)) := fun k e => own_typed (Kd.own_of_R hu) k e.symm
 have dif : ∀ {k t : Nat} {cs : Array Value}, w.heap[k]? = some (.cells cs t (0, 0)) → t ≠ 9 → ¬ some k = u.ownBlock := fun {k t cs} hb ht e => by
  obtain ⟨cells, hc⟩ := hty k e
  rw [hb] at hc
  injection hc with hc
  injection hc with _ hc _
  exact ht hc
 refine ⟨hB, h.hg, blk_kept h.blk hk (dif h.blk (by decide)), ?_, ?_, h.env, ?_⟩
 ·exact Kd.R_mono (Kd.R_kept (Kd.R_tight rfl h.nms) hk (fun k e1 e2 => hne k e2.symm e1)) (fun _ _ => trivial)
 ·refine Kd.R_mono (Kd.R_kept (Kd.R_tight rfl h.bts) hk (fun k e1 e2 => ?_)) (fun _ _ => trivial)
  obtain ⟨cells, hc⟩ := own_typed (Kd.own_of_R h.bts) k e1.symm
  exact dif hc (by decide) e2
 refine Kd.R_reok rfl (Kd.R_kept (Kd.R_tight rfl h.stk) hk (fun k e1 e2 => ?_)) h.stk.1
 obtain ⟨cells, hc⟩ := own_typed (Kd.own_of_R h.stk) k e1.symm
 exact dif hc (by decide) e2
end
def codeF (k : Nat) (nm : List ByteArray) (bs : List Bool) (en : List S69) : List S40 → List Bool → Option (List Bool)
  | [], st => some st
  | x :: xs, st => (insF k nm bs en x st).bind fun st' => codeF k nm bs en xs st'
def rungF (k : Nat) (nm : List ByteArray) (en : List S69) (r : S43) (s : List Bool × List ByteArray × List ByteArray) : Option (List Bool × List ByteArray × List ByteArray) :=
  (codeF k nm s.1 en r.f2 []).bind fun st => if st.length = 0 then none else
    (if r.f0 = 0 then (idxF k nm s.1 r.f1).bind fun i => some (s.1.set i.toNat (rdOf false st 0), s.2.1, s.2.2)
    else if r.f0 = 1 then (if rdOf false st 0 = true then (idxF k nm s.1 r.f1).bind fun i => some (s.1.set i.toNat true, s.2.1, s.2.2) else some s)
    else if r.f0 = 2 then (if rdOf false st 0 = true then (idxF k nm s.1 r.f1).bind fun i => some (s.1.set i.toNat false, s.2.1, s.2.2) else some s)
    else if r.f0 = 3 then (if rdOf false st 0 = true then some s else (rung_once.f k s.2.1 r.f1).bind fun h => some (s.1, h, s.2.2))
    else if r.f0 = 4 then (if rdOf false st 0 = true then some s else (rung_once.f k s.2.2 r.f1).bind fun h => some (s.1, s.2.1, h))
    else some s)
def rungsF (k : Nat) (nm : List ByteArray) (en : List S69) : List S43 → List Bool × List ByteArray × List ByteArray → Option (List Bool × List ByteArray × List ByteArray)
  | [], s => some s
  | r :: rs, s => (rungF k nm en r s).bind fun s' => rungsF k nm en rs s'
theorem codeF_mono (k : Nat) (nm : List ByteArray) (bs : List Bool) (en : List S69) : ∀ (l : List S40) (st : List Bool), LeO (codeF k nm bs en l st) (codeF (k + 1) nm bs en l st)
  | [], st => LeO.refl _
  | x :: xs, st => LeO.bind (insF_mono _ _ _ _ _ _) (fun _ => codeF_mono k nm bs en xs _)
theorem rungF_mono (k : Nat) (nm : List ByteArray) (en : List S69) (r : S43) (s : List Bool × List ByteArray × List ByteArray) : LeO (rungF k nm en r s) (rungF (k + 1) nm en r s) := by
  unfold rungF
  repeat' first
    | exact LeO.refl _
    | exact codeF_mono _ _ _ _ _ _
    | exact idxF_mono _ _ _ _
    | exact rung_once.mono _ _ _
    | refine LeO.ite ?_ ?_
    | refine LeO.bind ?_ (fun _ => ?_)
theorem rungsF_mono (k : Nat) (nm : List ByteArray) (en : List S69) : ∀ (l : List S43) (s : List Bool × List ByteArray × List ByteArray), LeO (rungsF k nm en l s) (rungsF (k + 1) nm en l s)
  | [], s => LeO.refl _
  | r :: rs, s => LeO.bind (rungF_mono _ _ _ _ _) (fun _ => rungsF_mono k nm en rs _)
theorem drop_T40 {l : List S40} {i : Int} (h0 : 0 ≤ i) (h1 : i < l.length) : l.drop i.toNat = rd_T40 l i :: l.drop (i + 1).toNat := by
  have h : i.toNat < l.length := by omega
  rw [show (i + 1).toNat = i.toNat + 1 from by omega, List.drop_eq_getElem_cons h]
  unfold rd_T40; rw [List.getD, List.getElem?_eq_getElem h]; rfl
theorem drop_T43 {l : List S43} {i : Int} (h0 : 0 ≤ i) (h1 : i < l.length) : l.drop i.toNat = rd_T43 l i :: l.drop (i + 1).toNat := by
  have h : i.toNat < l.length := by omega
  rw [show (i + 1).toNat = i.toNat + 1 from by omega, List.drop_eq_getElem_cons h]
  unfold rd_T43; rw [List.getD, List.getElem?_eq_getElem h]; rfl
end Go.Proofs.YtiaccdaeomaogaaDoor.F
