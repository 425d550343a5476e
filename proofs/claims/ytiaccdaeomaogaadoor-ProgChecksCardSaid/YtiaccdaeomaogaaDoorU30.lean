/- Texts of one claim, slimmed and merged by slim.py. -/
import Derived.Test.YtiaccdaeomaogaaDoorU4
import Derived.Test.YtiaccdaeomaogaaDoorU22
namespace Go.Proofs.YtiaccdaeomaogaaDoor.F
open Go.RowKit Go.Proofs.YtiaccdaeomaogaaDoorW.PrintWords Go.Proofs.YtiaccdaeomaogaaDoorW.PrintLast Go.Proofs.YtiaccdaeomaogaaDoorW.PrintMore
attribute [local go_sem] max2_int min2_int max_two min_two max_three min_three max_four min_four   -- for this text's walks alone
set_option linter.unusedVariables false
set_option linter.unusedSimpArgs false
def malthouseref09_Place.l0 : Nat → List ByteArray → ByteArray → Int → Option (Int)
  | 0, _, _, _ => none
  | k + 1, x0, x1, x5 => if x5 < (x0.length : Int) then (if 0 ≤ x5 then (if (rdOf ByteArray.empty x0 x5).toList = x1.toList then (some x5) else (malthouseref09_Place.l0 k x0 x1 (wrap64 (x5 + 1)))) else (none)) else (some (-1))
def malthouseref09_Place.f (k : Nat) (l0 : List ByteArray) (a1 : ByteArray) : Option (Int) := malthouseref09_Place.l0 k l0 a1 0
set_option maxHeartbeats 8000000 in
set_option maxRecDepth 100000 in
theorem malthouseref09_Place.calls (k : Nat) (A0 : Option Addr) (c0 : Nat) (l0 : List ByteArray) (a1 : ByteArray) (r : Int) (w : World) (hr0 : Kd.C Kd.string w A0 l0.length l0) (hc0 : l0.length ≤ c0) (h : malthouseref09_Place.f k l0 a1 = some r) :
    Calls Tryd.prog 33 #[.slice A0 l0.length c0, .string a1] w fun e w' => e = .returned (.int .i64 r) ∧ Drawn0 w w' := by
  have HR0 := Aside0.mk hr0
  have HC0 := Aside0.mk hc0
  clear hr0 hc0
  have H : (malthouseref09_Place.l0 k l0 a1 0) = some r := h
  clear h
  have H' := Aside0.mk H
  clear H
  go_enter Tryd.func33, Tryd.ntmps33
  go_wp2
  go_loopg [5] k (fun kq v5 w' => ∃ (x5_1 : Int), v5 = .int .i64 x5_1 ∧ Aside0 (malthouseref09_Place.l0 kq l0 a1 x5_1 = some r) ∧ Aside0 (kq ≤ k) ∧ Drawn0 w w')
  case atStart => exact ⟨(0), qv, H', ⟨Nat.le_refl _⟩, by repeat (first | exact Drawn0.refl _ | apply Drawn0.step)⟩
  case round =>
    clear H'
    obtain ⟨x5_1, rfl, HA, HK1, ⟨m1, rfl⟩⟩ := hrel
    cases gk with
    | zero => exact absurd HA.out (by simp [malthouseref09_Place.l0])
    | succ k1 =>
      have H := HA.out
      clear HA
      simp only [malthouseref09_Place.l0] at H
      by_cases c3 : x5_1 < (l0.length : Int)
      · rw [if_pos c3] at H
        have c3b0 : decide (x5_1 < (l0.length : Int)) = true := decide_eq_true c3
        clear c3
        by_cases c4 : 0 ≤ x5_1
        · rw [if_pos c4] at H
          have c4b0 : decide (0 ≤ x5_1) = true := decide_eq_true c4
          clear c4
          by_cases c5 : (rdOf ByteArray.empty l0 x5_1).toList = a1.toList
          · rw [if_pos c5] at H
            obtain ⟨c5b0, c5b1⟩ := qe c5
            clear c5
            obtain rfl := Option.some.inj H
            have p101 : 0 ≤ (x5_1 : Int) := qa
            have q101 : x5_1 < (l0.length : Int) := qa
            obtain ⟨ad101, e101, hx101_0⟩ := Kd.at_string HR0.out x5_1 p101 q101
            cases e101
            replace p101 := eq_true p101
            replace q101 := eq_true q101
            go_wp2
            go_ret
            exact ⟨by first | rfl | (simp; done) | (simp [*]; done), by repeat (first | exact Drawn0.refl _ | apply Drawn0.step)⟩
          rw [if_neg c5] at H
          obtain ⟨c5b0, c5b1⟩ := qd c5
          have H' := Aside0.mk H
          clear H
          have p101 : 0 ≤ (x5_1 : Int) := qa
          have q101 : x5_1 < (l0.length : Int) := qa
          obtain ⟨ad101, e101, hx101_0⟩ := Kd.at_string HR0.out x5_1 p101 q101
          cases e101
          replace p101 := eq_true p101
          replace q101 := eq_true q101
          go_wp2
          go_roundg k1
          case measure => have := HK1.out; omega
          case rel => exact ⟨(wrap64 (x5_1 + 1)), qv, H', ⟨by have := HK1.out; omega⟩, by repeat (first | exact Drawn0.refl _ | apply Drawn0.step)⟩
        rw [if_neg c4] at H
        exact absurd H (by simp)
      rw [if_neg c3] at H
      have c3b0 : decide (x5_1 < (l0.length : Int)) = false := decide_eq_false c3
      clear c3
      obtain rfl := Option.some.inj H
      go_wp2
      go_ret
      exact ⟨by first | rfl | (simp; done) | (simp [*]; done), by repeat (first | exact Drawn0.refl _ | apply Drawn0.step)⟩
def malthouseref11_is.f (k : Nat) (l0 : List ByteArray) (a1 : ByteArray) : Option (Bool) := (malthouseref09_Place.f k l0 a1).bind fun t101 => (some (decide (t101 ≥ 0)))
set_option maxHeartbeats 8000000 in
set_option maxRecDepth 100000 in
theorem malthouseref11_is.calls (k : Nat) (A0 : Option Addr) (c0 : Nat) (l0 : List ByteArray) (a1 : ByteArray) (r : Bool) (w : World) (hr0 : Kd.C Kd.string w A0 l0.length l0) (hc0 : l0.length ≤ c0) (h : malthouseref11_is.f k l0 a1 = some r) :
    Calls Tryd.prog 78 #[.slice A0 l0.length c0, .string a1] w fun e w' => e = .returned (.bool r) ∧ Drawn0 w w' := by
  have HR0 := Aside0.mk hr0
  have HC0 := Aside0.mk hc0
  clear hr0 hc0
  have H : ((malthouseref09_Place.f k l0 a1).bind fun t101 => (some (decide (t101 ≥ 0)))) = some r := h
  clear h
  replace H := qi H
  obtain ⟨t101, A3, H⟩ := H
  obtain rfl := Option.some.inj H
  go_enter Tryd.func78, Tryd.ntmps78
  go_wp2_with (first | ((with_reducible refine gate_callee (f := 33) rfl ?_); refine goesL_ (some 7) rfl rfl Tryd.func33 (by kernel_rfl) rfl #[.slice A0 l0.length c0, .string a1] rfl qm ?_; (with_reducible refine (malthouseref09_Place.calls k _ _ l0 a1 t101 _ ?side1 ?side2 A3.out).mono ?_); (case side1 => repeat (first | exact HR0.out | (with_reducible refine Kd.C_alloc ?_ _) | (with_reducible refine Kd.C_drewN ?_ _) | (with_reducible refine Kd.C_drew ?_))); (case side2 => exact HC0.out); rintro e w' ⟨rfl, ⟨nd, rfl⟩⟩; refine ⟨_, rfl, ?_⟩))
  go_ret
  exact ⟨by first | rfl | (simp; done) | (simp [*]; done), by repeat (first | exact Drawn0.refl _ | apply Drawn0.step)⟩
mutual
def malthouseref01_Quote.j0 : Nat → ByteArray → Bool → ByteArray → List Int → List Int → Option (ByteArray × Bool)
  | 0, _, _, _, _, _ => none
  | k + 1, x0, x19, x110000, x110001, x110002 => if x19 = true then (some ((⟨#[]⟩ : ByteArray), false)) else (malthouseref01_Quote.l0 k x0 0 x110000 x110001 x110002)
def malthouseref01_Quote.l0 : Nat → ByteArray → Int → ByteArray → List Int → List Int → Option (ByteArray × Bool)
  | 0, _, _, _, _, _ => none
  | k + 1, x0, x6, x110000, x110001, x110002 => if x6 < (x110001.length : Int) then (if 0 ≤ x6 then (if (rd x110001 x6) < 32 then (some ((⟨#[]⟩ : ByteArray), false)) else (if (rd x110001 x6) = 34 then (some ((⟨#[]⟩ : ByteArray), false)) else (malthouseref01_Quote.l0 k x0 (wrap64 (x6 + 1)) x110000 x110001 x110002))) else (none)) else (if 1 + x0.size ≤ 9223372036854775807 then (if ((⟨#[34]⟩ : ByteArray) ++ x0).size + 1 ≤ 9223372036854775807 then (some (((⟨#[34]⟩ : ByteArray) ++ x0) ++ (⟨#[34]⟩ : ByteArray), true)) else (none)) else (none))
end
def malthouseref01_Quote.f (k : Nat) (a0 : ByteArray) : Option (ByteArray × Bool) := (malthouseref01_Runes.f k a0).bind fun bt101 => (if bt101.2.2.2 = true then (malthouseref01_Quote.j0 k a0 (decide ((bt101.2.1.length : Int) > 20)) bt101.1 bt101.2.1 bt101.2.2.1) else (malthouseref01_Quote.j0 k a0 true bt101.1 bt101.2.1 bt101.2.2.1))
set_option maxHeartbeats 8000000 in
set_option maxRecDepth 100000 in
theorem malthouseref01_Quote.calls (k : Nat) (a0 : ByteArray) (r1 : ByteArray) (r2 : Bool) (w : World) (h : malthouseref01_Quote.f k a0 = some (r1, r2)) :
    Calls Tryd.prog 107 #[.string a0] w fun e w' => e = .returned (.tuple #[.string r1, .bool r2]) ∧ Below w.heap.size w w' := by
  have hu171 := Tryd.underlying171
  have HB := Aside0.mk (Below.refl w.heap.size w)
  have H : ((malthouseref01_Runes.f k a0).bind fun bt101 => (if bt101.2.2.2 = true then (malthouseref01_Quote.j0 k a0 (decide ((bt101.2.1.length : Int) > 20)) bt101.1 bt101.2.1 bt101.2.2.1) else (malthouseref01_Quote.j0 k a0 true bt101.1 bt101.2.1 bt101.2.2.1))) = some (r1, r2) := h
  clear h
  replace H := qi H
  obtain ⟨⟨t101, t102, t105, t108⟩, A2, H⟩ := H
  replace H : (if t108 = true then (malthouseref01_Quote.j0 k a0 (decide ((t102.length : Int) > 20)) t101 t102 t105) else (malthouseref01_Quote.j0 k a0 true t101 t102 t105)) = some (r1, r2) := H
  have HC3 := Aside0.mk H
  clear H
  go_enter Tryd.func107, Tryd.ntmps107
  go_upto_region 2 with (first | ((with_reducible refine gate_callee (f := 124) rfl ?_); refine goesL_ (some 9) rfl rfl Tryd.func124 (by kernel_rfl) rfl #[.string a0] rfl qm ?_; (with_reducible refine (malthouseref01_Runes.calls k a0 t101 t102 t105 t108 _ A2.out).mono ?_); rintro e w4 ⟨v103, v106, rfl, ho0, ho1, hb⟩; refine ⟨_, rfl, ?_⟩; have n0_ := Aside0.mk (Kd.R_lower ho0 (below_size qb)); have n1_ := Aside0.mk (Kd.R_lower ho1 (below_size qb)); have n2_ := qs hb; clear HB; have HO104 := n0_; have HO107 := n1_; have HB := n2_; clear n0_ n1_ n2_; (try clear hb); (try clear ho0); (try clear ho1)) | ((with_reducible refine gate_dst (N := 4) rfl ?_); (try (refine gate_guard (by rfl) ?_; dsimp only)); refine box_event ?hg (N := 4) ?hd (cs := #[.string (⟨#[]⟩ : ByteArray), .slice none 0 0, .slice none 0 0]) (t := 171) ?hr ?_; (case hd => rfl); (case hg => rfl); (case hr => first | (go_simp; done) | (go_simp; rfl)); intro gb109 hg w5 hbox hb; have n0_ := Aside0.mk (Kd.R_below (by (with_reducible repeat (first | apply Kd.R_alloc | apply Kd.R_drewN | apply Kd.R_drew)); exact HO104.out) hb); have n1_ := Aside0.mk (Kd.R_below (by (with_reducible repeat (first | apply Kd.R_alloc | apply Kd.R_drewN | apply Kd.R_drew)); exact HO107.out) hb); have n2_ := qs hb; have n3_ := Aside0.mk (hbox); have n4_ := Aside0.mk ((by rw [hg]; exact (below_size qb) : w.heap.size ≤ gb109)); have n5_ := Aside0.mk ((by rw [hg]; exact (below_size qb) : w.heap.size ≤ gb109)); clear HO104; clear HO107; clear HB; have HO104 := n0_; have HO107 := n1_; have HB := n2_; have BK109 := n3_; have GW109 := n4_; have GE109 := n5_; clear n0_ n1_ n2_ n3_ n4_ n5_; clear hb hbox hg; obtain ⟨_, _, _, _, _, _⟩ := q3 BK109.out; obtain ⟨Ao7, co7, eo7⟩ := Kd.R_slice HO104.out; subst eo7; obtain ⟨Ao8, co8, eo8⟩ := Kd.R_slice HO107.out; subst eo8))
  (try simp only [Act.put, List.setIfInBounds_toArray, List.set_cons_zero, List.set_cons_succ])
  go_cut [19] (fun v19 wc => ∃ (kq : Nat) (x19_2 : Bool), v19 = .bool x19_2 ∧ Aside0 (malthouseref01_Quote.j0 kq a0 x19_2 t101 t102 t105 = some (r1, r2)) ∧ Aside0 (kq ≤ k) ∧ Aside0 (Kd.R (Kd.int .i64) 3 wc w.heap.size (fun k_ => some k_ ≠ ((.slice Ao8 t105.length co8) : Value).ownBlock) (.slice Ao7 t102.length co7) t102) ∧ Aside0 (Kd.R (Kd.int .i64) 3 wc w.heap.size (fun k_ => some k_ ≠ ((.slice Ao7 t102.length co7) : Value).ownBlock) (.slice Ao8 t105.length co8) t105) ∧ Aside0 (wc.heap[gb109]? = some (.cells #[.string t101, (.slice Ao7 t102.length co7), (.slice Ao8 t105.length co8)] 171 (0, 0))) ∧ Aside0 (Below w.heap.size w wc))
  case first =>
    have H := HC3.out
    clear HC3
    by_cases c9 : t108 = true
    · subst c9
      rw [if_pos rfl] at H
      have H' := Aside0.mk H
      clear H
      obtain ⟨_, _, _, _, _, _⟩ := q3 BK109.out
      go_wp2
      go_meet
      case rel => exact ⟨_, (decide ((t102.length : Int) > 20)), qv, H', ql, ⟨by (with_reducible repeat (first | apply Kd.R_alloc | apply Kd.R_drewN | apply Kd.R_drew)); exact Kd.R_mono (Kd.R_far (p := ⟨gb109, 2, none⟩) (Kd.R_far (p := ⟨gb109, 1, none⟩) (Kd.R_far (p := ⟨gb109, 0, none⟩) (Kd.R_types HO104.out BK109.out (by decide)) (fun _ hk => hk.2) (.string t101)) (fun _ hk => hk.2) (.slice Ao7 t102.length co7)) (fun _ hk => hk.2) (.slice Ao8 t105.length co8)) (fun _ hk => hk.1)⟩, ⟨by (with_reducible repeat (first | apply Kd.R_alloc | apply Kd.R_drewN | apply Kd.R_drew)); exact Kd.R_mono (Kd.R_far (p := ⟨gb109, 2, none⟩) (Kd.R_far (p := ⟨gb109, 1, none⟩) (Kd.R_far (p := ⟨gb109, 0, none⟩) (Kd.R_types HO107.out BK109.out (by decide)) (fun _ hk => hk.2) (.string t101)) (fun _ hk => hk.2) (.slice Ao7 t102.length co7)) (fun _ hk => hk.2) (.slice Ao8 t105.length co8)) (fun _ hk => hk.1)⟩, qY109, qB⟩
    replace c9 := Bool.eq_false_iff.mpr c9
    subst c9
    rw [if_neg qf] at H
    have H' := Aside0.mk H
    clear H
    go_wp2
    go_meet
    case rel => exact ⟨_, (true), qv, H', ql, ⟨by (with_reducible repeat (first | apply Kd.R_alloc | apply Kd.R_drewN | apply Kd.R_drew)); exact Kd.R_mono (Kd.R_far (p := ⟨gb109, 2, none⟩) (Kd.R_far (p := ⟨gb109, 1, none⟩) (Kd.R_far (p := ⟨gb109, 0, none⟩) (Kd.R_types HO104.out BK109.out (by decide)) (fun _ hk => hk.2) (.string t101)) (fun _ hk => hk.2) (.slice Ao7 t102.length co7)) (fun _ hk => hk.2) (.slice Ao8 t105.length co8)) (fun _ hk => hk.1)⟩, ⟨by (with_reducible repeat (first | apply Kd.R_alloc | apply Kd.R_drewN | apply Kd.R_drew)); exact Kd.R_mono (Kd.R_far (p := ⟨gb109, 2, none⟩) (Kd.R_far (p := ⟨gb109, 1, none⟩) (Kd.R_far (p := ⟨gb109, 0, none⟩) (Kd.R_types HO107.out BK109.out (by decide)) (fun _ hk => hk.2) (.string t101)) (fun _ hk => hk.2) (.slice Ao7 t102.length co7)) (fun _ hk => hk.2) (.slice Ao8 t105.length co8)) (fun _ hk => hk.1)⟩, qY109, qB⟩
  clear HC3
  obtain ⟨kq, x19_2, rfl, HA, HJ2, HO_110001, HO_110002, BK109, HB⟩ := hcut
  cases kq with
  | zero => exact absurd HA.out (by simp [malthouseref01_Quote.j0])
  | succ kj2 =>
    have H := HA.out
    clear HA
    simp only [malthouseref01_Quote.j0] at H
    by_cases c11 : x19_2 = true
    · subst c11
      rw [if_pos rfl] at H
      simp only [Option.some.injEq, Prod.mk.injEq] at H
      obtain ⟨rfl, rfl⟩ := H
      go_wp2
      go_ret2
      exact qr
    replace c11 := Bool.eq_false_iff.mpr c11
    subst c11
    rw [if_neg qf] at H
    have H' := Aside0.mk H
    clear H
    go_wp2
    go_loopg [6] kj2 (fun kq v6 w' => ∃ (x6_2 : Int), v6 = .int .i64 x6_2 ∧ Aside0 (malthouseref01_Quote.l0 kq a0 x6_2 t101 t102 t105 = some (r1, r2)) ∧ Aside0 (kq ≤ kj2) ∧ Aside0 (Kd.R (Kd.int .i64) 3 w' w.heap.size (fun k_ => some k_ ≠ ((.slice Ao8 t105.length co8) : Value).ownBlock) (.slice Ao7 t102.length co7) t102) ∧ Aside0 (Kd.R (Kd.int .i64) 3 w' w.heap.size (fun k_ => some k_ ≠ ((.slice Ao7 t102.length co7) : Value).ownBlock) (.slice Ao8 t105.length co8) t105) ∧ Aside0 (w'.heap[gb109]? = some (.cells #[.string t101, (.slice Ao7 t102.length co7), (.slice Ao8 t105.length co8)] 171 (0, 0))) ∧ Aside0 (Below w.heap.size w w'))
    case atStart => exact ⟨(0), qv, H', ⟨Nat.le_refl _⟩, ⟨by (with_reducible repeat (first | apply Kd.R_alloc | apply Kd.R_drewN | apply Kd.R_drew)); exact HO_110001.out⟩, ⟨by (with_reducible repeat (first | apply Kd.R_alloc | apply Kd.R_drewN | apply Kd.R_drew)); exact HO_110002.out⟩, qk109, qB⟩
    case round =>
      clear H'
      obtain ⟨x6_2, rfl, HA, HK2, HO_110001, HO_110002, BK109, HB⟩ := hrel
      cases gk with
      | zero => exact absurd HA.out (by simp [malthouseref01_Quote.l0])
      | succ k2 =>
        have H := HA.out
        clear HA
        simp only [malthouseref01_Quote.l0] at H
        by_cases c12 : x6_2 < (t102.length : Int)
        · rw [if_pos c12] at H
          have c12b0 : decide (x6_2 < (t102.length : Int)) = true := decide_eq_true c12
          clear c12
          by_cases c13 : 0 ≤ x6_2
          · rw [if_pos c13] at H
            have c13b0 : decide (0 ≤ x6_2) = true := decide_eq_true c13
            clear c13
            by_cases c14 : (rd t102 x6_2) < 32
            · rw [if_pos c14] at H
              have c14b0 : decide ((rd t102 x6_2) < 32) = true := decide_eq_true c14
              clear c14
              simp only [Option.some.injEq, Prod.mk.injEq] at H
              obtain ⟨rfl, rfl⟩ := H
              obtain ⟨_, _, _, _, _, _⟩ := q3 BK109.out
              have p110 : 0 ≤ (x6_2 : Int) := qa
              have q110 : x6_2 < (t102.length : Int) := qa
              obtain ⟨ad110, e110, hx110_0⟩ := Kd.at_int (Kd.R_reads' HO_110001.out).2.2 x6_2 p110 q110
              cases e110
              replace p110 := eq_true p110
              replace q110 := eq_true q110
              go_wp2
              go_ret2
              exact qr
            rw [if_neg c14] at H
            have c14b0 : decide ((rd t102 x6_2) < 32) = false := decide_eq_false c14
            clear c14
            by_cases c16 : (rd t102 x6_2) = 34
            · rw [if_pos c16] at H
              obtain ⟨c16b0, c16b1⟩ := qe c16
              clear c16
              simp only [Option.some.injEq, Prod.mk.injEq] at H
              obtain ⟨rfl, rfl⟩ := H
              obtain ⟨_, _, _, _, _, _⟩ := q3 BK109.out
              have p110 : 0 ≤ (x6_2 : Int) := qa
              have q110 : x6_2 < (t102.length : Int) := qa
              obtain ⟨ad110, e110, hx110_0⟩ := Kd.at_int (Kd.R_reads' HO_110001.out).2.2 x6_2 p110 q110
              cases e110
              replace p110 := eq_true p110
              replace q110 := eq_true q110
              have p111 : 0 ≤ (x6_2 : Int) := qa
              have q111 : x6_2 < (t102.length : Int) := qa
              obtain ⟨ad111, e111, hx111_0⟩ := Kd.at_int (Kd.R_reads' HO_110001.out).2.2 x6_2 p111 q111
              obtain rfl : ad110 = ad111 := (by injection e111)
              replace p111 := eq_true p111
              replace q111 := eq_true q111
              go_wp2
              go_ret2
              exact qr
            rw [if_neg c16] at H
            obtain ⟨c16b0, c16b1⟩ := qd c16
            have H' := Aside0.mk H
            clear H
            obtain ⟨_, _, _, _, _, _⟩ := q3 BK109.out
            have p110 : 0 ≤ (x6_2 : Int) := qa
            have q110 : x6_2 < (t102.length : Int) := qa
            obtain ⟨ad110, e110, hx110_0⟩ := Kd.at_int (Kd.R_reads' HO_110001.out).2.2 x6_2 p110 q110
            cases e110
            replace p110 := eq_true p110
            replace q110 := eq_true q110
            have p111 : 0 ≤ (x6_2 : Int) := qa
            have q111 : x6_2 < (t102.length : Int) := qa
            obtain ⟨ad111, e111, hx111_0⟩ := Kd.at_int (Kd.R_reads' HO_110001.out).2.2 x6_2 p111 q111
            obtain rfl : ad110 = ad111 := (by injection e111)
            replace p111 := eq_true p111
            replace q111 := eq_true q111
            go_wp2
            go_roundg k2
            case measure => have := HJ2.out; have := HK2.out; omega
            case rel => exact ⟨(wrap64 (x6_2 + 1)), qv, H', ⟨by have := HJ2.out; have := HK2.out; omega⟩, ⟨by (with_reducible repeat (first | apply Kd.R_alloc | apply Kd.R_drewN | apply Kd.R_drew)); exact HO_110001.out⟩, ⟨by (with_reducible repeat (first | apply Kd.R_alloc | apply Kd.R_drewN | apply Kd.R_drew)); exact HO_110002.out⟩, qk109, qB⟩
          rw [if_neg c13] at H
          exact absurd H (by simp)
        rw [if_neg c12] at H
        have c12b0 : decide (x6_2 < (t102.length : Int)) = false := decide_eq_false c12
        clear c12
        by_cases c19 : 1 + a0.size ≤ 9223372036854775807
        · rw [if_pos c19] at H
          have c19b0 := eq_true c19
          have c19b1 : decide (1 + a0.size ≤ 9223372036854775807) = true := decide_eq_true c19
          try have c19b2 : (9223372036854775807 < 1 + a0.size) = False := eq_false (Nat.not_lt.2 c19)
          by_cases c20 : ((⟨#[34]⟩ : ByteArray) ++ a0).size + 1 ≤ 9223372036854775807
          · rw [if_pos c20] at H
            have c20b0 := eq_true c20
            have c20b1 : decide (((⟨#[34]⟩ : ByteArray) ++ a0).size + 1 ≤ 9223372036854775807) = true := decide_eq_true c20
            try have c20b2 : (9223372036854775807 < ((⟨#[34]⟩ : ByteArray) ++ a0).size + 1) = False := eq_false (Nat.not_lt.2 c20)
            have c20b3 : (9223372036854775807 < 1 + a0.size + 1) = False := eq_false (by have h1_ := c20; rw [ByteArray.size_append] at h1_; have h2_ : (⟨#[34]⟩ : ByteArray).size = 1 := rfl; omega)
            simp only [Option.some.injEq, Prod.mk.injEq] at H
            obtain ⟨rfl, rfl⟩ := H
            obtain ⟨_, _, _, _, _, _⟩ := q3 BK109.out
            go_wp2
            go_ret2
            exact qr
          rw [if_neg c20] at H
          exact absurd H (by simp)
        rw [if_neg c19] at H
        exact absurd H (by simp)
end Go.Proofs.YtiaccdaeomaogaaDoor.F
