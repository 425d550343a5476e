/- Texts of one claim, slimmed and merged by slim.py. -/
import Derived.Test.YtiaccdaeomaogaaDoorP4
import Derived.Test.YtiaccdaeomaogaaDoorP7
import Derived.Test.YtiaccdaeomaogaaDoorP16
import Derived.Test.YtiaccdaeomaogaaDoorP21
namespace Go.Proofs.YtiaccdaeomaogaaDoor.F
open Go.RowKit Go.Proofs.YtiaccdaeomaogaaDoorW.PrintWords Go.Proofs.YtiaccdaeomaogaaDoorW.PrintLast Go.Proofs.YtiaccdaeomaogaaDoorW.PrintMore
attribute [local go_sem] max2_int min2_int max_two min_two max_three min_three max_four min_four   -- for this text's walks alone
set_option linter.unusedVariables false
set_option linter.unusedSimpArgs false
mutual
def malthouselaw11_ProgDelays.j0 : Nat → Int → Int → Bool → Bool → Option (Bool)
 | 0, _, _, _, _ => none
 | k + 1, x0, x1, x5, x25 => if x25 = true then (some x5) else (malthouselaw11_ProgDelays.l0 k x0 x1 x5 ([] : List (S67)) 0)
def malthouselaw11_ProgDelays.l0 : Nat → Int → Int → Bool → List (S67) → Int → Option (Bool)
 | 0, _, _, _, _, _ => none
 | k + 1, x0, x1, x5, x6, x7 => if x7 < x1 then (if x6.length < 1353245080339 then (malthouselaw11_ProgDelays.l0 k x0 x1 x5 (x6 ++ [(⟨7, (⟨#[97]⟩ : ByteArray), (⟨#[]⟩ : ByteArray), (⟨0, 0, (⟨#[]⟩ : ByteArray), ([] : List (S34))⟩ : S34), 0⟩ : S67)]) (wrap64 (x7 + 1))) else (none)) else (if x6.length < 1353245080339 then (malthouselaw11_ProgDelays.l1 k x0 x1 x5 (x6 ++ [(⟨2, (⟨#[]⟩ : ByteArray), (⟨#[]⟩ : ByteArray), (⟨1, 0, (⟨#[110]⟩ : ByteArray), ([] : List (S34))⟩ : S34), 0⟩ : S67)]) 0 false 0 0) else (none))
def malthouselaw11_ProgDelays.l1 : Nat → Int → Int → Bool → List (S67) → Int → Bool → Int → Int → Option (Bool)
 | 0, _, _, _, _, _, _, _, _ => none
 | k + 1, x0, x1, x5, x6, x9, x10, x109000, x109001 => if x9 < 1020 then (malthouselaw11_ProgDelays.j3 k x0 x1 x5 x6 x9 (!x10) x109000 x109001) else (malthouselaw11_ProgDelays.j3 k x0 x1 x5 x6 x9 false x109000 x109001)
def malthouselaw11_ProgDelays.j3 : Nat → Int → Int → Bool → List (S67) → Int → Bool → Int → Int → Option (Bool)
 | 0, _, _, _, _, _, _, _, _ => none
 | k + 1, x0, x1, x5, x6, x9, x47, x109000, x109001 => if x47 = true then ((prog_Scan.f k x6 x109000 x109001 (([(⟨(⟨#[110]⟩ : ByteArray), x0⟩ : S69)] : List (S69)))).bind fun bt112 => (if bt112.2.2.2.2 = 0 then (malthouselaw11_ProgDelays.l1 k x0 x1 x5 x6 (wrap64 (x9 + 1)) bt112.2.2.2.1 bt112.1 bt112.2.1) else (some false))) else (if x0 ≤ 0 then (if x5 = true then (some (x9 == (wrap64 (x1 + 1)))) else (some false)) else (if x5 = true then (some (x9 == (wrap64 ((wrap64 (x1 + x0)) + 1)))) else (some false)))
end
def malthouselaw11_ProgDelays.f (k : Nat) (a0 : Int) (a1 : Int) : Option (Bool) := (malthouselaw11_awake.f k).bind fun t101 => (if a0 > 1000 then (malthouselaw11_ProgDelays.j0 k a0 a1 t101 true) else (if a1 < 0 then (malthouselaw11_ProgDelays.j0 k a0 a1 t101 true) else (malthouselaw11_ProgDelays.j0 k a0 a1 t101 (decide (a1 > 5)))))
theorem malthouselaw11_ProgDelays.mono_l : ∀ k, (∀ y0 y1 y2 y3, LeO (malthouselaw11_ProgDelays.j0 k y0 y1 y2 y3) (malthouselaw11_ProgDelays.j0 (k + 1) y0 y1 y2 y3)) ∧ (∀ y0 y1 y2 y3 y4, LeO (malthouselaw11_ProgDelays.l0 k y0 y1 y2 y3 y4) (malthouselaw11_ProgDelays.l0 (k + 1) y0 y1 y2 y3 y4)) ∧ (∀ y0 y1 y2 y3 y4 y5 y6 y7, LeO (malthouselaw11_ProgDelays.l1 k y0 y1 y2 y3 y4 y5 y6 y7) (malthouselaw11_ProgDelays.l1 (k + 1) y0 y1 y2 y3 y4 y5 y6 y7)) ∧ (∀ y0 y1 y2 y3 y4 y5 y6 y7, LeO (malthouselaw11_ProgDelays.j3 k y0 y1 y2 y3 y4 y5 y6 y7) (malthouselaw11_ProgDelays.j3 (k + 1) y0 y1 y2 y3 y4 y5 y6 y7))
 | 0 => ⟨fun _ _ _ _ r h => by simp [malthouselaw11_ProgDelays.j0] at h, fun _ _ _ _ _ r h => by simp [malthouselaw11_ProgDelays.l0] at h, fun _ _ _ _ _ _ _ _ r h => by simp [malthouselaw11_ProgDelays.l1] at h, fun _ _ _ _ _ _ _ _ r h => by simp [malthouselaw11_ProgDelays.j3] at h⟩
 | k + 1 => by
  obtain ⟨ih0, ih1, ih2, ih3⟩ := malthouselaw11_ProgDelays.mono_l k
  refine ⟨?_, ?_, ?_, ?_⟩
  ·intro y0 y1 y2 y3
   unfold malthouselaw11_ProgDelays.j0
   repeat' first
   | (with_reducible exact ih0 _ _ _ _)
   | (with_reducible exact ih1 _ _ _ _ _)
   | (with_reducible exact ih2 _ _ _ _ _ _ _ _)
   | (with_reducible exact ih3 _ _ _ _ _ _ _ _)
   | (with_reducible exact malthouselaw11_awake.mono _)
   | (with_reducible exact prog_Scan.mono _ _ _ _ _)
   | (with_reducible exact LeO.refl _)
   | (with_reducible exact LeO.none _)
   | (with_reducible refine LeO.ite ?_ ?_)
   | (with_reducible refine LeO.bind ?_ (fun _ => ?_))
   | exact ih0 _ _ _ _
   | exact ih1 _ _ _ _ _
   | exact ih2 _ _ _ _ _ _ _ _
   | exact ih3 _ _ _ _ _ _ _ _
   | exact malthouselaw11_awake.mono _
   | exact prog_Scan.mono _ _ _ _ _
   | exact LeO.none _
   | refine LeO.ite ?_ ?_
   | refine LeO.bind ?_ (fun _ => ?_)
  ·intro y0 y1 y2 y3 y4
   unfold malthouselaw11_ProgDelays.l0
   repeat' first
   | (with_reducible exact ih0 _ _ _ _)
   | (with_reducible exact ih1 _ _ _ _ _)
   | (with_reducible exact ih2 _ _ _ _ _ _ _ _)
   | (with_reducible exact ih3 _ _ _ _ _ _ _ _)
   | (with_reducible exact malthouselaw11_awake.mono _)
   | (with_reducible exact prog_Scan.mono _ _ _ _ _)
   | (with_reducible exact LeO.refl _)
   | (with_reducible exact LeO.none _)
   | (with_reducible refine LeO.ite ?_ ?_)
   | (with_reducible refine LeO.bind ?_ (fun _ => ?_))
   | exact ih0 _ _ _ _
   | exact ih1 _ _ _ _ _
   | exact ih2 _ _ _ _ _ _ _ _
   | exact ih3 _ _ _ _ _ _ _ _
   | exact malthouselaw11_awake.mono _
   | exact prog_Scan.mono _ _ _ _ _
   | exact LeO.none _
   | refine LeO.ite ?_ ?_
   | refine LeO.bind ?_ (fun _ => ?_)
  ·intro y0 y1 y2 y3 y4 y5 y6 y7
   unfold malthouselaw11_ProgDelays.l1
   repeat' first
   | (with_reducible exact ih0 _ _ _ _)
   | (with_reducible exact ih1 _ _ _ _ _)
   | (with_reducible exact ih2 _ _ _ _ _ _ _ _)
   | (with_reducible exact ih3 _ _ _ _ _ _ _ _)
   | (with_reducible exact malthouselaw11_awake.mono _)
   | (with_reducible exact prog_Scan.mono _ _ _ _ _)
   | (with_reducible exact LeO.refl _)
   | (with_reducible exact LeO.none _)
   | (with_reducible refine LeO.ite ?_ ?_)
   | (with_reducible refine LeO.bind ?_ (fun _ => ?_))
   | exact ih0 _ _ _ _
   | exact ih1 _ _ _ _ _
   | exact ih2 _ _ _ _ _ _ _ _
   | exact ih3 _ _ _ _ _ _ _ _
   | exact malthouselaw11_awake.mono _
   | exact prog_Scan.mono _ _ _ _ _
   | exact LeO.none _
   | refine LeO.ite ?_ ?_
   | refine LeO.bind ?_ (fun _ => ?_)
  ·intro y0 y1 y2 y3 y4 y5 y6 y7
   unfold malthouselaw11_ProgDelays.j3
   repeat' first
   | (with_reducible exact ih0 _ _ _ _)
   | (with_reducible exact ih1 _ _ _ _ _)
   | (with_reducible exact ih2 _ _ _ _ _ _ _ _)
   | (with_reducible exact ih3 _ _ _ _ _ _ _ _)
   | (with_reducible exact malthouselaw11_awake.mono _)
   | (with_reducible exact prog_Scan.mono _ _ _ _ _)
   | (with_reducible exact LeO.refl _)
   | (with_reducible exact LeO.none _)
   | (with_reducible refine LeO.ite ?_ ?_)
   | (with_reducible refine LeO.bind ?_ (fun _ => ?_))
   | exact ih0 _ _ _ _
   | exact ih1 _ _ _ _ _
   | exact ih2 _ _ _ _ _ _ _ _
   | exact ih3 _ _ _ _ _ _ _ _
   | exact malthouselaw11_awake.mono _
   | exact prog_Scan.mono _ _ _ _ _
   | exact LeO.none _
   | refine LeO.ite ?_ ?_
   | refine LeO.bind ?_ (fun _ => ?_)
theorem malthouselaw11_ProgDelays.mono : ∀ a0 a1 k, LeO (malthouselaw11_ProgDelays.f k a0 a1) (malthouselaw11_ProgDelays.f (k + 1) a0 a1) := by
 intro a0 a1 k
 obtain ⟨ih0, ih1, ih2, ih3⟩ := malthouselaw11_ProgDelays.mono_l k
 unfold malthouselaw11_ProgDelays.f
 repeat' first
   | (with_reducible exact ih0 _ _ _ _)
   | (with_reducible exact ih1 _ _ _ _ _)
   | (with_reducible exact ih2 _ _ _ _ _ _ _ _)
   | (with_reducible exact ih3 _ _ _ _ _ _ _ _)
   | (with_reducible exact malthouselaw11_awake.mono _)
   | (with_reducible exact prog_Scan.mono _ _ _ _ _)
   | (with_reducible exact LeO.refl _)
   | (with_reducible exact LeO.none _)
   | (with_reducible refine LeO.ite ?_ ?_)
   | (with_reducible refine LeO.bind ?_ (fun _ => ?_))
   | exact ih0 _ _ _ _
   | exact ih1 _ _ _ _ _
   | exact ih2 _ _ _ _ _ _ _ _
   | exact ih3 _ _ _ _ _ _ _ _
   | exact malthouselaw11_awake.mono _
   | exact prog_Scan.mono _ _ _ _ _
   | exact LeO.none _
   | refine LeO.ite ?_ ?_
   | refine LeO.bind ?_ (fun _ => ?_)
set_option maxHeartbeats 8000000 in
set_option maxRecDepth 100000 in
theorem malthouselaw11_ProgDelays.calls (k : Nat) (a0 : Int) (a1 : Int) (r : Bool) (w : World) (h : malthouselaw11_ProgDelays.f k a0 a1 = some r) (hT : UT w) (hR : r = true) :
  Calls Tryd.prog 11 #[.int .i64 a0, .int .i64 a1] w fun e w' => e = .returned (.bool r) ∧ Below w.heap.size w w' := by
 have HT0 := Aside0.mk hT
 clear hT
 have HRT := Aside0.mk hR
 clear hR
 have hu67 := Tryd.underlying67
 have hu34 := Tryd.underlying34
 have hu57 := Tryd.underlying57
 have hu69 := Tryd.underlying69
 have HB := Aside0.mk (Below.refl w.heap.size w)
 have H : ((malthouselaw11_awake.f k).bind fun t101 => (if a0 > 1000 then (malthouselaw11_ProgDelays.j0 k a0 a1 t101 true) else (if a1 < 0 then (malthouselaw11_ProgDelays.j0 k a0 a1 t101 true) else (malthouselaw11_ProgDelays.j0 k a0 a1 t101 (decide (a1 > 5)))))) = some r := h
 clear h
 replace H := Option.bind_eq_some_iff.mp H
 obtain ⟨t101, A30, H⟩ := H
 replace H : (if a0 > 1000 then (malthouselaw11_ProgDelays.j0 k a0 a1 t101 true) else (if a1 < 0 then (malthouselaw11_ProgDelays.j0 k a0 a1 t101 true) else (malthouselaw11_ProgDelays.j0 k a0 a1 t101 (decide (a1 > 5))))) = some r := H
 have A3 := Aside0.mk A30
 clear A30
 have HC4 := Aside0.mk H
 clear H
 go_enter Tryd.func11, Tryd.ntmps11
 go_upto_region 2 with (first | ((with_reducible refine gate_callee (f := 35) rfl ?_); refine goesL_ (some 15) rfl rfl Tryd.func35 (by kernel_rfl) rfl #[] rfl (by (try simp only [List.map_toArray, List.map_cons, List.map_nil]); first | done | rfl | (simp only [List.length_drop, List.length_take]; rfl)) ?_; (with_reducible refine (malthouselaw11_awake.calls k  t101 _ A3.out (by first | exact HT0.out | exact UT.below HT0.out (by repeat (first | (with_reducible first | exact HB.out | apply below_alloc | apply pw_below_drewN | apply below_drew1) | exact HB.out))) (malthouselaw11_awake_r A3.out)).mono ?_); rintro e w5 ⟨rfl, hb⟩; refine ⟨_, rfl, ?_⟩; have n0_ := Aside0.mk (below_step (by repeat (first | (with_reducible first | exact HB.out | apply below_alloc | apply pw_below_drewN | apply below_drew1) | exact HB.out)) hb); clear HB; have HB := n0_; clear n0_; (try clear hb); (try clear hb2); (try clear hk); (try clear hi)))
 (try simp only [Act.put, List.setIfInBounds_toArray, List.set_cons_zero, List.set_cons_succ])
 go_cut [25] (fun v25 wc => ∃ (kq : Nat) (x25_3 : Bool), v25 = .bool x25_3 ∧ Aside0 (malthouselaw11_ProgDelays.j0 kq a0 a1 t101 x25_3 = some r) ∧ Aside0 (kq ≤ k) ∧ Aside0 (Below w.heap.size w wc))
 case first =>
  have H := HC4.out
  clear HC4
  by_cases c6 : a0 > 1000
  ·rw [if_pos c6] at H
   have c6b0 : decide (1000 < a0) = true := decide_eq_true c6
   clear c6
   (first | rw [c6b0] | (simp only [i64_w, i32_w]; rw [c6b0]) | skip)
   have H' := Aside0.mk H
   clear H
   go_wp2
   go_meet
   case rel => exact ⟨_, (true), (by first | rfl | (simp; done) | (simp [*]; done)), H', ⟨by first | omega | exact Nat.le_refl _⟩, ⟨by repeat (first | (with_reducible first | exact HB.out | apply below_alloc | apply pw_below_drewN | apply below_drew1) | exact HB.out)⟩⟩
  ·rw [if_neg c6] at H
   have c6b0 : decide (1000 < a0) = false := decide_eq_false c6
   clear c6
   (first | rw [c6b0] | (simp only [i64_w, i32_w]; rw [c6b0]) | skip)
   by_cases c7 : a1 < 0
   ·rw [if_pos c7] at H
    have c7b0 : decide (a1 < 0) = true := decide_eq_true c7
    clear c7
    have H' := Aside0.mk H
    clear H
    go_wp2
    go_meet
    case rel => exact ⟨_, (true), (by first | rfl | (simp; done) | (simp [*]; done)), H', ⟨by first | omega | exact Nat.le_refl _⟩, ⟨by repeat (first | (with_reducible first | exact HB.out | apply below_alloc | apply pw_below_drewN | apply below_drew1) | exact HB.out)⟩⟩
   ·rw [if_neg c7] at H
    have c7b0 : decide (a1 < 0) = false := decide_eq_false c7
    clear c7
    have H' := Aside0.mk H
    clear H
    go_wp2
    go_meet
    case rel => exact ⟨_, (decide (a1 > 5)), (by first | rfl | (simp; done) | (simp [*]; done)), H', ⟨by first | omega | exact Nat.le_refl _⟩, ⟨by repeat (first | (with_reducible first | exact HB.out | apply below_alloc | apply pw_below_drewN | apply below_drew1) | exact HB.out)⟩⟩
 case rest =>
  clear HC4
  try clear c1
  try clear p2
  try clear c3
  try clear c6
  try clear c6b0
  try clear c7
  try clear c7b0
  obtain ⟨kq, x25_3, rfl, HA, HJ3, HB⟩ := hcut
  cases kq with
  | zero => exact absurd HA.out (by simp [malthouselaw11_ProgDelays.j0])
  | succ kj3 =>
   have H := HA.out
   clear HA
   simp only [malthouselaw11_ProgDelays.j0] at H
   by_cases c8 : x25_3 = true
   ·subst c8
    have H1 : (some t101) = some r := by rw [if_pos rfl] at H; exact H
    clear H
    have H := H1
    clear H1
    obtain rfl := Option.some.inj H
    go_wp2
    go_ret
    exact ⟨by first | rfl | (simp [errW_none, errW_some] <;> rfl) | (simp [*, errW_none, errW_some] <;> rfl), by repeat (first | (with_reducible first | exact HB.out | apply below_alloc | apply pw_below_drewN | apply below_drew1) | exact HB.out)⟩
   ·replace c8 := Bool.eq_false_iff.mpr c8
    subst c8
    have H1 : (malthouselaw11_ProgDelays.l0 kj3 a0 a1 t101 ([] : List (S67)) 0) = some r := by rw [if_neg (show ¬ (false = true) by decide)] at H; exact H
    clear H
    have H := H1
    clear H1
    have H' := Aside0.mk H
    clear H
    go_wp2
    go_loopg [6, 7] kj3 (fun kq v6 v7 w' => ∃ (x6_2 : List (S67)) (x7_2 : Int), v7 = .int .i64 x7_2 ∧ Aside0 (malthouselaw11_ProgDelays.l0 kq a0 a1 t101 x6_2 x7_2 = some r) ∧ Aside0 (kq ≤ kj3) ∧ Aside0 (Kd.R k67 67 w' w.heap.size (fun _ => True) v6 x6_2) ∧ Aside0 (Below w.heap.size w w'))
    case atStart => exact ⟨(([] : List (S67))), (0), (by first | rfl | (simp; done) | (simp [*]; done)), H', ⟨Nat.le_refl _⟩, ⟨by first | exact Kd.R_nil _ _ _ _ _ | exact Kd.N_nil _ _ _ _ _ | exact Kd.V_nil _ _ _ _ _ | exact Kd.Q_nil _ _ _ _ _ | exact Kd.S_nil _ _ _ _ _⟩, ⟨by repeat (first | (with_reducible first | exact HB.out | apply below_alloc | apply pw_below_drewN | apply below_drew1) | exact HB.out)⟩⟩
    case round =>
     clear H'
     try clear c1
     try clear p2
     try clear c3
     try clear c6
     try clear c6b0
     try clear c7
     try clear c7b0
     try clear c8
     try clear p2
     obtain ⟨x6_2, x7_2, rfl, HA, HK2, HO_6, HB⟩ := hrel
     cases gk with
     | zero => exact absurd HA.out (by simp [malthouselaw11_ProgDelays.l0])
     | succ k2 =>
      have H := HA.out
      clear HA
      simp only [malthouselaw11_ProgDelays.l0] at H
      by_cases c9 : x7_2 < a1
      ·rw [if_pos c9] at H
       have c9b0 : decide (x7_2 < a1) = true := decide_eq_true c9
       clear c9
       by_cases c10 : x6_2.length < 1353245080339
       ·rw [if_pos c10] at H
        have LMc10 := Aside0.mk c10
        clear c10
        obtain ⟨y102, hy102⟩ : ∃ y_ : List (S67), y_ = (x6_2 ++ [(⟨7, (⟨#[97]⟩ : ByteArray), (⟨#[]⟩ : ByteArray), (⟨0, 0, (⟨#[]⟩ : ByteArray), ([] : List (S34))⟩ : S34), 0⟩ : S67)]) := ⟨_, rfl⟩
        replace H : (malthouselaw11_ProgDelays.l0 k2 a0 a1 t101 y102 (wrap64 (x7_2 + 1))) = some r := by first | (rw [hy102]; with_reducible exact H) | (have H2_ := (Option.bind_some _ _).symm.trans H; rw [hy102]; with_reducible exact H2_) | (have H2_ := (Option.bind_some _ _).symm.trans H; with_reducible exact H2_) | with_reducible exact H | (rw [hy102]; exact H) | exact H
        have Ny102 := Aside0.mk hy102
        clear hy102
        have H' := Aside0.mk H
        clear H
        go_wp2_with (first | ((with_reducible refine gate_builtin (b := .append) (xs := #[.tmp 32, .tmp 34]) rfl ?_); at_builtin; refine Kd.R_append k67 (w0 := w) w.heap.size rfl (.tmp 32) (.tmp 34) 55 67 (.agg #[(.int .i64 0), (.string ⟨#[]⟩), (.string ⟨#[]⟩), (.int .i64 0), (.int .i64 0), (.string ⟨#[]⟩), (.slice none 0 0), (.int .i64 0)]) 104 rfl Tryd.underlying55 info67 rfl (by decide) (by omega) u6 x6_2 (⟨7, (⟨#[97]⟩ : ByteArray), (⟨#[]⟩ : ByteArray), (⟨0, 0, (⟨#[]⟩ : ByteArray), ([] : List (S34))⟩ : S34), 0⟩ : S67) [.int .i64 7, .string (⟨#[97]⟩ : ByteArray), .string (⟨#[]⟩ : ByteArray), .int .i64 0, .int .i64 0, .string (⟨#[]⟩ : ByteArray), .slice none 0 0, .int .i64 0] (fun _ => True) (fun k_ => ((fun _ => True)) k_ ∧ some k_ ≠ (u6 : Value).ownBlock) rfl rfl ?aP (fun _ hk => hk) ?aF ?aO ?aB ?aS ?aL ?_; (case aP => exact k67_mkM _ _ _ (⟨7, (⟨#[97]⟩ : ByteArray), (⟨#[]⟩ : ByteArray), (⟨0, 0, (⟨#[]⟩ : ByteArray), ([] : List (S34))⟩ : S34), 0⟩ : S67) (Kd.R_nil _ _ _ _ _)); (case aB => exact (by repeat (first | (with_reducible first | exact HB.out | apply below_alloc | apply pw_below_drewN | apply below_drew1) | exact HB.out))); (case aF => exact (fun _ _ => trivial)); (case aO => exact (by (with_reducible repeat (first | apply Kd.R_alloc | apply Kd.R_drewN | apply Kd.R_drew)); exact HO_6.out)); (case aS => exact (below_size (by repeat (first | (with_reducible first | exact HB.out | apply below_alloc | apply pw_below_drewN | apply below_drew1) | exact HB.out)))); (case aL => have := LMc10.out; omega); intro v103 w11 ho hb hg hat; rw [← Ny102.out] at ho; have n0_ := Aside0.mk (hb); have n1_ := Aside0.mk (ho); clear HB; clear HO_6; have HB := n0_; have HO104 := n1_; clear n0_ n1_; clear ho hb hg hat))
        go_roundg k2
        case measure => have := HJ3.out; have := HK2.out; omega
        case rel => exact ⟨(y102), (wrap64 (x7_2 + 1)), (by first | rfl | (simp; done) | (simp [*]; done)), H', ⟨by have := HJ3.out; have := HK2.out; omega⟩, ⟨by (with_reducible repeat (first | apply Kd.R_alloc | apply Kd.R_drewN | apply Kd.R_drew)); exact HO104.out⟩, ⟨by repeat (first | (with_reducible first | exact HB.out | apply below_alloc | apply pw_below_drewN | apply below_drew1) | exact HB.out)⟩⟩
       ·rw [if_neg c10] at H
        exact absurd H (by simp)
      ·rw [if_neg c9] at H
       have c9b0 : decide (x7_2 < a1) = false := decide_eq_false c9
       clear c9
       by_cases c12 : x6_2.length < 1353245080339
       ·rw [if_pos c12] at H
        have LMc12 := Aside0.mk c12
        clear c12
        obtain ⟨y105, hy105⟩ : ∃ y_ : List (S67), y_ = (x6_2 ++ [(⟨2, (⟨#[]⟩ : ByteArray), (⟨#[]⟩ : ByteArray), (⟨1, 0, (⟨#[110]⟩ : ByteArray), ([] : List (S34))⟩ : S34), 0⟩ : S67)]) := ⟨_, rfl⟩
        replace H : (malthouselaw11_ProgDelays.l1 k2 a0 a1 t101 y105 0 false 0 0) = some r := by first | (rw [hy105]; with_reducible exact H) | (have H2_ := (Option.bind_some _ _).symm.trans H; rw [hy105]; with_reducible exact H2_) | (have H2_ := (Option.bind_some _ _).symm.trans H; with_reducible exact H2_) | with_reducible exact H | (rw [hy105]; exact H) | exact H
        have Ny105 := Aside0.mk hy105
        clear hy105
        have H' := Aside0.mk H
        clear H
        go_wp2_with (first | ((with_reducible refine gate_builtin (b := .append) (xs := #[.tmp 36, .tmp 39]) rfl ?_); at_builtin; refine Kd.R_append k67 (w0 := w) w.heap.size rfl (.tmp 36) (.tmp 39) 55 67 (.agg #[(.int .i64 0), (.string ⟨#[]⟩), (.string ⟨#[]⟩), (.int .i64 0), (.int .i64 0), (.string ⟨#[]⟩), (.slice none 0 0), (.int .i64 0)]) 104 rfl Tryd.underlying55 info67 rfl (by decide) (by omega) u6 x6_2 (⟨2, (⟨#[]⟩ : ByteArray), (⟨#[]⟩ : ByteArray), (⟨1, 0, (⟨#[110]⟩ : ByteArray), ([] : List (S34))⟩ : S34), 0⟩ : S67) [.int .i64 2, .string (⟨#[]⟩ : ByteArray), .string (⟨#[]⟩ : ByteArray), .int .i64 1, .int .i64 0, .string (⟨#[110]⟩ : ByteArray), .slice none 0 0, .int .i64 0] (fun _ => True) (fun k_ => ((fun _ => True)) k_ ∧ some k_ ≠ (u6 : Value).ownBlock) rfl rfl ?aP (fun _ hk => hk) ?aF ?aO ?aB ?aS ?aL ?_; (case aP => exact k67_mkM _ _ _ (⟨2, (⟨#[]⟩ : ByteArray), (⟨#[]⟩ : ByteArray), (⟨1, 0, (⟨#[110]⟩ : ByteArray), ([] : List (S34))⟩ : S34), 0⟩ : S67) (Kd.R_nil _ _ _ _ _)); (case aB => exact (by repeat (first | (with_reducible first | exact HB.out | apply below_alloc | apply pw_below_drewN | apply below_drew1) | exact HB.out))); (case aF => exact (fun _ _ => trivial)); (case aO => exact (by (with_reducible repeat (first | apply Kd.R_alloc | apply Kd.R_drewN | apply Kd.R_drew)); exact HO_6.out)); (case aS => exact (below_size (by repeat (first | (with_reducible first | exact HB.out | apply below_alloc | apply pw_below_drewN | apply below_drew1) | exact HB.out)))); (case aL => have := LMc12.out; omega); intro v106 w13 ho hb hg hat; rw [← Ny105.out] at ho; have n0_ := Aside0.mk (hb); have n1_ := Aside0.mk (ho); clear HB; clear HO_6; have HB := n0_; have HO107 := n1_; clear n0_ n1_; clear ho hb hg hat) | ((with_reducible refine gate_dst (N := 8) rfl ?_); refine box_event ?hg (N := 8) ?hd (cs := #[.int .i64 0, .int .i64 0]) (t := 57) ?hr ?_; (case hd => rfl); (case hg => rfl); (case hr => first | (go_simp; done) | (go_simp; rfl)); intro gb108 hg w14 hbox hb; have n0_ := Aside0.mk (Kd.R_below (by (with_reducible repeat (first | apply Kd.R_alloc | apply Kd.R_drewN | apply Kd.R_drew)); exact HO107.out) hb); have n1_ := Aside0.mk (below_step (by repeat (first | (with_reducible first | exact HB.out | apply below_alloc | apply pw_below_drewN | apply below_drew1) | exact HB.out)) hb); have n2_ := Aside0.mk (hbox); have n3_ := Aside0.mk ((by rw [hg]; exact (below_size (by repeat (first | (with_reducible first | exact HB.out | apply below_alloc | apply pw_below_drewN | apply below_drew1) | exact HB.out))) : w.heap.size ≤ gb108)); have n4_ := Aside0.mk ((by rw [hg]; exact (below_size (by repeat (first | (with_reducible first | exact HB.out | apply below_alloc | apply pw_below_drewN | apply below_drew1) | exact HB.out))) : w.heap.size ≤ gb108)); clear HO107; clear HB; have HO107 := n0_; have HB := n1_; have BK108 := n2_; have GW108 := n3_; have GE108 := n4_; clear n0_ n1_ n2_ n3_ n4_; clear hb hbox hg; have hcz15_0 : w14.cell? ⟨gb108, 0, none⟩ = some (.int .i64 0) := (blk_cell BK108.out 0).trans rfl; have hcz15_1 : w14.cell? ⟨gb108, 1, none⟩ = some (.int .i64 0) := (blk_cell BK108.out 1).trans rfl; have hfz15_0 := blk_frozen BK108.out 0; have hfz15_1 := blk_frozen BK108.out 1))
        go_loopg [9, 10] k2 (fun kq v9 v10 w' => ∃ (x9_3 : Int) (x10_3 : Bool) (x109000_3 : Int) (x109001_3 : Int), v9 = .int .i64 x9_3 ∧ v10 = .bool x10_3 ∧ Aside0 (malthouselaw11_ProgDelays.l1 kq a0 a1 t101 y105 x9_3 x10_3 x109000_3 x109001_3 = some r) ∧ Aside0 (kq ≤ k2) ∧ Aside0 (Kd.R k67 67 w' w.heap.size (fun _ => True) v106 y105) ∧ Aside0 (w'.heap[gb108]? = some (.cells #[.int .i64 x109000_3, .int .i64 x109001_3] 57 (0, 0))) ∧ Aside0 (Below w.heap.size w w'))
        case atStart => exact ⟨(0), (false), (0), (0), (by first | rfl | (simp; done) | (simp [*]; done)), (by first | rfl | (simp; done) | (simp [*]; done)), H', ⟨Nat.le_refl _⟩, ⟨by (with_reducible repeat (first | apply Kd.R_alloc | apply Kd.R_drewN | apply Kd.R_drew)); exact Kd.R_mono (Kd.R_far (p := ⟨gb108, 1, none⟩) (Kd.R_far (p := ⟨gb108, 0, none⟩) (Kd.R_types HO107.out BK108.out (by decide)) (fun _ hk => hk.2) (.int .i64 0)) (fun _ hk => hk.2) (.int .i64 0)) (fun _ hk => trivial)⟩, ⟨by (with_reducible repeat (first | refine blk_drewN ?_ _ | refine blk_drew ?_ | refine blk_alloc ?_ _)); refine blk_put (cs := #[.int .i64 0, .int .i64 0]) ?_ 1 _ rfl; (with_reducible repeat (first | refine blk_drewN ?_ _ | refine blk_drew ?_ | refine blk_alloc ?_ _)); refine blk_put (cs := #[.int .i64 0, .int .i64 0]) ?_ 0 _ rfl; (with_reducible repeat (first | refine blk_drewN ?_ _ | refine blk_drew ?_ | refine blk_alloc ?_ _)); exact BK108.out⟩, ⟨by repeat (first | (with_reducible first | exact HB.out | apply below_alloc | apply pw_below_drewN | apply below_drew1 | refine below_set ?_ GE108.out) | exact HB.out)⟩⟩
        case round =>
         clear H'
         try clear c1
         try clear p2
         try clear c3
         try clear c6
         try clear c6b0
         try clear p6
         try clear c7
         try clear c7b0
         try clear c8
         try clear c9
         try clear c9b0
         try clear c10
         try clear c11
         try clear c12
         try clear hcz15_0
         try clear hcz15_1
         try clear hfz15_0
         try clear hfz15_1
         try clear p2
         obtain ⟨x9_3, x10_3, x109000_3, x109001_3, rfl, rfl, HA, HK3, HO_6, BK108, HB⟩ := hrel
         cases gk with
         | zero => exact absurd HA.out (by simp [malthouselaw11_ProgDelays.l1])
         | succ k3 =>
          have H := HA.out
          clear HA
          simp only [malthouselaw11_ProgDelays.l1] at H
          have HC16 := Aside0.mk H
          clear H
          go_upto_region 13 with (fail)
          go_cut [47] (fun v47 wc => ∃ (kq : Nat) (x47_15 : Bool), v47 = .bool x47_15 ∧ Aside0 (malthouselaw11_ProgDelays.j3 kq a0 a1 t101 y105 x9_3 x47_15 x109000_3 x109001_3 = some r) ∧ Aside0 (kq ≤ k3) ∧ Aside0 (Kd.R k67 67 wc w.heap.size (fun _ => True) v106 y105) ∧ Aside0 (wc.heap[gb108]? = some (.cells #[.int .i64 x109000_3, .int .i64 x109001_3] 57 (0, 0))) ∧ Aside0 (Below w.heap.size w wc))
          case first =>
           have H := HC16.out
           clear HC16
           by_cases c17 : x9_3 < 1020
           ·rw [if_pos c17] at H
            have c17b0 : decide (x9_3 < 1020) = true := decide_eq_true c17
            clear c17
            (first | rw [c17b0] | (simp only [i64_w, i32_w]; rw [c17b0]) | skip)
            have H' := Aside0.mk H
            clear H
            go_wp2
            go_meet
            case rel => exact ⟨_, (!x10_3), (by first | rfl | (simp; done) | (simp [*]; done)), H', ⟨by have := HJ3.out; have := HK2.out; have := HK3.out; first | omega | exact Nat.le_refl _⟩, ⟨by (with_reducible repeat (first | apply Kd.R_alloc | apply Kd.R_drewN | apply Kd.R_drew)); exact HO_6.out⟩, ⟨by (with_reducible repeat (first | refine blk_drewN ?_ _ | refine blk_drew ?_ | refine blk_alloc ?_ _)); exact BK108.out⟩, ⟨by repeat (first | (with_reducible first | exact HB.out | apply below_alloc | apply pw_below_drewN | apply below_drew1 | refine below_set ?_ GE108.out) | exact HB.out)⟩⟩
           ·rw [if_neg c17] at H
            have c17b0 : decide (x9_3 < 1020) = false := decide_eq_false c17
            clear c17
            (first | rw [c17b0] | (simp only [i64_w, i32_w]; rw [c17b0]) | skip)
            have H' := Aside0.mk H
            clear H
            go_wp2
            go_meet
            case rel => exact ⟨_, (false), (by first | rfl | (simp; done) | (simp [*]; done)), H', ⟨by have := HJ3.out; have := HK2.out; have := HK3.out; first | omega | exact Nat.le_refl _⟩, ⟨by (with_reducible repeat (first | apply Kd.R_alloc | apply Kd.R_drewN | apply Kd.R_drew)); exact HO_6.out⟩, ⟨by (with_reducible repeat (first | refine blk_drewN ?_ _ | refine blk_drew ?_ | refine blk_alloc ?_ _)); exact BK108.out⟩, ⟨by repeat (first | (with_reducible first | exact HB.out | apply below_alloc | apply pw_below_drewN | apply below_drew1 | refine below_set ?_ GE108.out) | exact HB.out)⟩⟩
          case rest =>
           clear HC16
           try clear c1
           try clear p2
           try clear c3
           try clear c6
           try clear c6b0
           try clear p6
           try clear c7
           try clear c7b0
           try clear c8
           try clear c9
           try clear c9b0
           try clear c10
           try clear c11
           try clear c12
           try clear c17
           try clear c17b0
           try clear hcz15_0
           try clear hcz15_1
           try clear hfz15_0
           try clear hfz15_1
           try clear p2
           try clear p6
           obtain ⟨kq, x47_15, rfl, HA, HJ15, HO_6, BK108, HB⟩ := hcut
           cases kq with
           | zero => exact absurd HA.out (by simp [malthouselaw11_ProgDelays.j3])
           | succ kj15 =>
            have H := HA.out
            clear HA
            simp only [malthouselaw11_ProgDelays.j3] at H
            by_cases c18 : x47_15 = true
            ·subst c18
             have H1 : ((prog_Scan.f kj15 y105 x109000_3 x109001_3 (([(⟨(⟨#[110]⟩ : ByteArray), a0⟩ : S69)] : List (S69)))).bind fun bt112 => (if bt112.2.2.2.2 = 0 then (malthouselaw11_ProgDelays.l1 kj15 a0 a1 t101 y105 (wrap64 (x9_3 + 1)) bt112.2.2.2.1 bt112.1 bt112.2.1) else (some false))) = some r := by rw [if_pos rfl] at H; exact H
             clear H
             have H := H1
             clear H1
             obtain ⟨y109, hy109⟩ : ∃ y_ : List (S69), y_ = (([(⟨(⟨#[110]⟩ : ByteArray), a0⟩ : S69)] : List (S69))) := ⟨_, rfl⟩
             replace H : ((prog_Scan.f kj15 y105 x109000_3 x109001_3 y109).bind fun bt112 => (if bt112.2.2.2.2 = 0 then (malthouselaw11_ProgDelays.l1 kj15 a0 a1 t101 y105 (wrap64 (x9_3 + 1)) bt112.2.2.2.1 bt112.1 bt112.2.1) else (some false))) = some r := by first | (rw [hy109]; with_reducible exact H) | (have H2_ := (Option.bind_some _ _).symm.trans H; rw [hy109]; with_reducible exact H2_) | (have H2_ := (Option.bind_some _ _).symm.trans H; with_reducible exact H2_) | with_reducible exact H | (rw [hy109]; exact H) | exact H
             have Ny109 := Aside0.mk hy109
             clear hy109
             replace H := Option.bind_eq_some_iff.mp H
             obtain ⟨⟨t112, t113, t114, t117, t118⟩, A190, H⟩ := H
             replace H : (if t118 = 0 then (malthouselaw11_ProgDelays.l1 kj15 a0 a1 t101 y105 (wrap64 (x9_3 + 1)) t117 t112 t113) else (some false)) = some r := H
             have A19 := Aside0.mk A190
             clear A190
             by_cases c20 : t118 = 0
             ·rw [if_pos c20] at H
              have c20b0 : (t118 == 0) = true := beq_iff_eq.mpr c20
              have c20b1 : (t118 != 0) = false := bne_eq_false_iff_eq.mpr c20
              clear c20
              have H' := Aside0.mk H
              clear H
              have hcz21_0 : wc.cell? ⟨gb108, 0, none⟩ = some (.int .i64 x109000_3) := (blk_cell BK108.out 0).trans rfl
              have hcz21_1 : wc.cell? ⟨gb108, 1, none⟩ = some (.int .i64 x109001_3) := (blk_cell BK108.out 1).trans rfl
              have hfz21_0 := blk_frozen BK108.out 0
              have hfz21_1 := blk_frozen BK108.out 1
              go_wp2_with (first | ((with_reducible refine gate_dst (N := 53) rfl ?_); refine Kd.R_lit k69 _ 69 ?hg (N := 53) ?hd (xs := ([(⟨(⟨#[110]⟩ : ByteArray), a0⟩ : S69)] : List (S69))) (inner := [.string (⟨#[110]⟩ : ByteArray), .int .i64 a0]) (ok := fun _ => True) (okp := fun _ => True) ?hr ?hp (fun _ hk => hk) trivial (Below.refl _ _) (Nat.le_refl _) (by simp) ?_; (case hd => rfl); (case hg => rfl); (case hr => first | (go_simp; done) | (go_simp; rfl)); (case hp => exact (Reps.c2 (show Kd.M k69 _ _ _ (⟨(⟨#[110]⟩ : ByteArray), a0⟩ : S69) [.string (⟨#[110]⟩ : ByteArray), .int .i64 a0] from (k69_mkM _ _ _ (⟨(⟨#[110]⟩ : ByteArray), a0⟩ : S69) )) (Reps.none _ _))); intro v110 w22 ho23 hb hg_ hnew_; clear hg_ hnew_; (first | rw [← Ny109.out] at ho23 | (simp only [Int.reduceToNat] at ho23; rw [← Ny109.out] at ho23)); have n0_ := Aside0.mk (Kd.R_below (by (with_reducible repeat (first | apply Kd.R_alloc | apply Kd.R_drewN | apply Kd.R_drew)); exact HO_6.out) hb); have n1_ := Aside0.mk (Kd.R_lower ho23 (below_size (by repeat (first | (with_reducible first | exact HB.out | apply below_alloc | apply pw_below_drewN | apply below_drew1 | refine below_set ?_ GE108.out) | exact HB.out)))); have n2_ := Aside0.mk (blk_below (g := gb108) (o := .cells #[.int .i64 x109000_3, .int .i64 x109001_3] 57 (0, 0)) (by (with_reducible repeat (first | refine blk_drewN ?_ _ | refine blk_drew ?_ | refine blk_alloc ?_ _)); exact BK108.out) hb); have n3_ := Aside0.mk (below_step (by repeat (first | (with_reducible first | exact HB.out | apply below_alloc | apply pw_below_drewN | apply below_drew1 | refine below_set ?_ GE108.out) | exact HB.out)) hb); clear HO_6; clear BK108; clear HB; have HO_6 := n0_; have HO111 := n1_; have BK108 := n2_; have HB := n3_; clear n0_ n1_ n2_ n3_; clear hb ho23; obtain ⟨Ao24, co24, eo24⟩ := Kd.R_slice HO_6.out; subst eo24; obtain ⟨Ao25, co25, eo25⟩ := Kd.R_slice HO111.out; subst eo25) | ((with_reducible refine gate_callee (f := 38) rfl ?_); refine goesL_ (some 54) rfl rfl Tryd.func38 (by kernel_rfl) rfl #[.slice Ao24 y105.length co24, .agg #[.int .i64 x109000_3, .int .i64 x109001_3], .slice Ao25 y109.length co25] rfl (by (try simp only [List.map_toArray, List.map_cons, List.map_nil]); first | done | rfl | (simp only [List.length_drop, List.length_take]; rfl)) ?_; (with_reducible refine (prog_Scan.calls kj15 _ _ y105 x109000_3 x109001_3 _ _ y109 t112 t113 t114 t117 t118 _ ?side1 ?side2 ?side3 ?side4 A19.out (by first | exact HT0.out | exact UT.below HT0.out (by repeat (first | (with_reducible first | exact HB.out | apply below_alloc | apply pw_below_drewN | apply below_drew1 | refine below_set ?_ GE108.out) | exact HB.out)))).mono ?_); (case side1 => repeat (first | exact (Kd.R_reads' HO_6.out).2.2 | (with_reducible refine Kd.C_alloc ?_ _) | (with_reducible refine Kd.C_drewN ?_ _) | (with_reducible refine Kd.C_drew ?_))); (case side2 => exact (Kd.R_reads' HO_6.out).2.1); (case side3 => repeat (first | exact (Kd.R_reads' HO111.out).2.2 | (with_reducible refine Kd.C_alloc ?_ _) | (with_reducible refine Kd.C_drewN ?_ _) | (with_reducible refine Kd.C_drew ?_))); (case side4 => exact (Kd.R_reads' HO111.out).2.1); rintro e w26 ⟨v115, rfl, ho0, hb⟩; refine ⟨_, rfl, ?_⟩; have n0_ := Aside0.mk (Kd.R_below (by (with_reducible repeat (first | apply Kd.R_alloc | apply Kd.R_drewN | apply Kd.R_drew)); exact HO_6.out) hb); have n1_ := Aside0.mk (Kd.R_below (by (with_reducible repeat (first | apply Kd.R_alloc | apply Kd.R_drewN | apply Kd.R_drew)); exact HO111.out) hb); have n2_ := Aside0.mk (Kd.R_lower ho0 (below_size (by repeat (first | (with_reducible first | exact HB.out | apply below_alloc | apply pw_below_drewN | apply below_drew1 | refine below_set ?_ GE108.out) | exact HB.out)))); have n3_ := Aside0.mk (blk_below (g := gb108) (o := .cells #[.int .i64 x109000_3, .int .i64 x109001_3] 57 (0, 0)) (by (with_reducible repeat (first | refine blk_drewN ?_ _ | refine blk_drew ?_ | refine blk_alloc ?_ _)); exact BK108.out) hb); have n4_ := Aside0.mk (below_step (by repeat (first | (with_reducible first | exact HB.out | apply below_alloc | apply pw_below_drewN | apply below_drew1 | refine below_set ?_ GE108.out) | exact HB.out)) hb); clear HO_6; clear HO111; clear BK108; clear HB; have HO_6 := n0_; have HO111 := n1_; have HO116 := n2_; have BK108 := n3_; have HB := n4_; clear n0_ n1_ n2_ n3_ n4_; (try clear hb); (try clear hb2); (try clear hk); (try clear hi); (try clear ho0)) | ((with_reducible refine gate_dst (N := 11) rfl ?_); refine box_event ?hg (N := 11) ?hd (cs := #[.int .i64 0, .int .i64 0]) (t := 57) ?hr ?_; (case hd => rfl); (case hg => rfl); (case hr => first | (go_simp; done) | (go_simp; rfl)); intro gb119 hg w27 hbox hb; have n0_ := Aside0.mk (Kd.R_below (by (with_reducible repeat (first | apply Kd.R_alloc | apply Kd.R_drewN | apply Kd.R_drew)); exact HO_6.out) hb); have n1_ := Aside0.mk (Kd.R_below (by (with_reducible repeat (first | apply Kd.R_alloc | apply Kd.R_drewN | apply Kd.R_drew)); exact HO111.out) hb); have n2_ := Aside0.mk (Kd.R_below (by (with_reducible repeat (first | apply Kd.R_alloc | apply Kd.R_drewN | apply Kd.R_drew)); exact HO116.out) hb); have n3_ := Aside0.mk (blk_below (g := gb108) (o := .cells #[.int .i64 x109000_3, .int .i64 x109001_3] 57 (0, 0)) (by (with_reducible repeat (first | refine blk_drewN ?_ _ | refine blk_drew ?_ | refine blk_alloc ?_ _)); exact BK108.out) hb); have n4_ := Aside0.mk (below_step (by repeat (first | (with_reducible first | exact HB.out | apply below_alloc | apply pw_below_drewN | apply below_drew1 | refine below_set ?_ GE108.out) | exact HB.out)) hb); have n5_ := Aside0.mk (hbox); have n6_ := Aside0.mk ((by rw [hg]; exact (below_size (by repeat (first | (with_reducible first | exact HB.out | apply below_alloc | apply pw_below_drewN | apply below_drew1 | refine below_set ?_ GE108.out) | exact HB.out))) : w.heap.size ≤ gb119)); have n7_ := Aside0.mk ((by rw [hg]; exact (below_size (by repeat (first | (with_reducible first | exact HB.out | apply below_alloc | apply pw_below_drewN | apply below_drew1 | refine below_set ?_ GE108.out) | exact HB.out))) : w.heap.size ≤ gb119)); have n8_ := Aside0.mk ((by rw [hg]; exact Nat.ne_of_lt (blk_lt (g := gb108) (o := .cells #[.int .i64 x109000_3, .int .i64 x109001_3] 57 (0, 0)) (by (with_reducible repeat (first | refine blk_drewN ?_ _ | refine blk_drew ?_ | refine blk_alloc ?_ _)); exact BK108.out)) : gb108 ≠ gb119)); have n9_ := Aside0.mk ((by rw [hg]; exact Nat.ne_of_gt (blk_lt (g := gb108) (o := .cells #[.int .i64 x109000_3, .int .i64 x109001_3] 57 (0, 0)) (by (with_reducible repeat (first | refine blk_drewN ?_ _ | refine blk_drew ?_ | refine blk_alloc ?_ _)); exact BK108.out)) : gb119 ≠ gb108)); clear HO_6; clear HO111; clear HO116; clear BK108; clear HB; have HO_6 := n0_; have HO111 := n1_; have HO116 := n2_; have BK108 := n3_; have HB := n4_; have BK119 := n5_; have GW119 := n6_; have GE119 := n7_; have NB108_119 := n8_; have NB119_108 := n9_; clear n0_ n1_ n2_ n3_ n4_ n5_ n6_ n7_ n8_ n9_; clear hb hbox hg; have hnb28 := NB119_108.out; have hnc28 := NB108_119.out; have hcz29_0 : w27.cell? ⟨gb119, 0, none⟩ = some (.int .i64 0) := (blk_cell BK119.out 0).trans rfl; have hcz29_1 : w27.cell? ⟨gb119, 1, none⟩ = some (.int .i64 0) := (blk_cell BK119.out 1).trans rfl; have hfz29_0 := blk_frozen BK119.out 0; have hfz29_1 := blk_frozen BK119.out 1; have hcz30_0 : w27.cell? ⟨gb108, 0, none⟩ = some (.int .i64 x109000_3) := (blk_cell BK108.out 0).trans rfl; have hcz30_1 : w27.cell? ⟨gb108, 1, none⟩ = some (.int .i64 x109001_3) := (blk_cell BK108.out 1).trans rfl; have hfz30_0 := blk_frozen BK108.out 0; have hfz30_1 := blk_frozen BK108.out 1))
              go_roundg kj15
              case measure => have := HJ3.out; have := HK2.out; have := HK3.out; have := HJ15.out; omega
              case rel => exact ⟨(wrap64 (x9_3 + 1)), (t117), (t112), (t113), (by first | rfl | (simp; done) | (simp [*]; done)), (by first | rfl | (simp; done) | (simp [*]; done)), H', ⟨by have := HJ3.out; have := HK2.out; have := HK3.out; have := HJ15.out; omega⟩, ⟨by (with_reducible repeat (first | apply Kd.R_alloc | apply Kd.R_drewN | apply Kd.R_drew)); exact Kd.R_mono (Kd.R_far (p := ⟨gb108, 1, none⟩) (Kd.R_far (p := ⟨gb108, 0, none⟩) (Kd.R_far (p := ⟨gb119, 1, none⟩) (Kd.R_far (p := ⟨gb119, 0, none⟩) (Kd.R_types (Kd.R_types HO_6.out BK119.out (by decide)) BK108.out (by decide)) (fun _ hk => hk.1.2) (.int .i64 t112)) (fun _ hk => hk.1.2) (.int .i64 t113)) (fun _ hk => hk.2) (.int .i64 t112)) (fun _ hk => hk.2) (.int .i64 t113)) (fun _ hk => trivial)⟩, ⟨by (with_reducible repeat (first | refine blk_drewN ?_ _ | refine blk_drew ?_ | refine blk_alloc ?_ _)); refine blk_put (cs := #[.int .i64 t112, .int .i64 x109001_3]) ?_ 1 _ rfl; (with_reducible repeat (first | refine blk_drewN ?_ _ | refine blk_drew ?_ | refine blk_alloc ?_ _)); refine blk_put (cs := #[.int .i64 x109000_3, .int .i64 x109001_3]) ?_ 0 _ rfl; (with_reducible repeat (first | refine blk_drewN ?_ _ | refine blk_drew ?_ | refine blk_alloc ?_ _)); refine blk_far ?_ NB108_119.out _; (with_reducible repeat (first | refine blk_drewN ?_ _ | refine blk_drew ?_ | refine blk_alloc ?_ _)); refine blk_far ?_ NB108_119.out _; (with_reducible repeat (first | refine blk_drewN ?_ _ | refine blk_drew ?_ | refine blk_alloc ?_ _)); exact BK108.out⟩, ⟨by repeat (first | (with_reducible first | exact HB.out | apply below_alloc | apply pw_below_drewN | apply below_drew1 | refine below_set ?_ GE108.out | refine below_set ?_ GE119.out) | exact HB.out)⟩⟩
             ·rw [if_neg c20] at H
              have c20b0 : (t118 == 0) = false := beq_eq_false_iff_ne.mpr c20
              have c20b1 : (t118 != 0) = true := bne_iff_ne.mpr c20
              exact absurd ((Option.some.inj H).trans HRT.out) (by decide)
            ·replace c18 := Bool.eq_false_iff.mpr c18
             subst c18
             have H1 : (if a0 ≤ 0 then (if t101 = true then (some (x9_3 == (wrap64 (a1 + 1)))) else (some false)) else (if t101 = true then (some (x9_3 == (wrap64 ((wrap64 (a1 + a0)) + 1)))) else (some false))) = some r := by rw [if_neg (show ¬ (false = true) by decide)] at H; exact H
             clear H
             have H := H1
             clear H1
             by_cases c40 : a0 ≤ 0
             ·rw [if_pos c40] at H
              have c40b0 : decide (a0 ≤ 0) = true := decide_eq_true c40
              clear c40
              by_cases c41 : t101 = true
              ·subst c41
               have H1 : (some (x9_3 == (wrap64 (a1 + 1)))) = some r := by rw [if_pos rfl] at H; exact H
               clear H
               have H := H1
               clear H1
               obtain rfl := Option.some.inj H
               go_wp2
               go_ret
               exact ⟨by first | rfl | (simp [errW_none, errW_some] <;> rfl) | (simp [*, errW_none, errW_some] <;> rfl), by repeat (first | (with_reducible first | exact HB.out | apply below_alloc | apply pw_below_drewN | apply below_drew1 | refine below_set ?_ GE108.out) | exact HB.out)⟩
              ·replace c41 := Bool.eq_false_iff.mpr c41
               subst c41
               have H1 : (some false) = some r := by rw [if_neg (show ¬ (false = true) by decide)] at H; exact H
               clear H
               have H := H1
               clear H1
               exact absurd ((Option.some.inj H).trans HRT.out) (by decide)
             ·rw [if_neg c40] at H
              have c40b0 : decide (a0 ≤ 0) = false := decide_eq_false c40
              clear c40
              by_cases c42 : t101 = true
              ·subst c42
               have H1 : (some (x9_3 == (wrap64 ((wrap64 (a1 + a0)) + 1)))) = some r := by rw [if_pos rfl] at H; exact H
               clear H
               have H := H1
               clear H1
               obtain rfl := Option.some.inj H
               go_wp2
               go_ret
               exact ⟨by first | rfl | (simp [errW_none, errW_some] <;> rfl) | (simp [*, errW_none, errW_some] <;> rfl), by repeat (first | (with_reducible first | exact HB.out | apply below_alloc | apply pw_below_drewN | apply below_drew1 | refine below_set ?_ GE108.out) | exact HB.out)⟩
              ·replace c42 := Bool.eq_false_iff.mpr c42
               subst c42
               have H1 : (some false) = some r := by rw [if_neg (show ¬ (false = true) by decide)] at H; exact H
               clear H
               have H := H1
               clear H1
               exact absurd ((Option.some.inj H).trans HRT.out) (by decide)
       ·rw [if_neg c12] at H
        exact absurd H (by simp)
end Go.Proofs.YtiaccdaeomaogaaDoor.F
