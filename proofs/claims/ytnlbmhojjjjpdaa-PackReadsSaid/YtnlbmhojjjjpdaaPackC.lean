/- The contracts of pack's Reader. -/
import Derived.Test.YtnlbmhojjjjpdaaPackA
import Derived.Test.YtnlbmhojjjjpdaaPackDec
import Derived.Outline
import Derived.WalkSpells
namespace Go.Proofs.Ytnlbmhojjjjpdaa.Pk
open Go.RowKit Go.Proofs.YtnlbmhojjjjpdaaW.PrintWords Go.Proofs.YtnlbmhojjjjpdaaW.PrintLast Go.Proofs.YtnlbmhojjjjpdaaW.PrintMore
set_option linter.unusedVariables false
set_option linter.unusedSimpArgs false

/-- A Reader at block g: the bytes that are left, and whether something was wrong. -/
def IsRd (w : World) (g : Nat) (bs : List Int) (bad : Bool) : Prop := ∃ A c, w.heap[g]? = some (.cells #[.slice A bs.length c, .bool bad] 70 (0, 0)) ∧ bs.length ≤ c ∧ ReadsInt w .u8 A bs.length bs ∧ (∀ ad, A = some ad → ad.block ≠ g)

set_option maxHeartbeats 4000000 in
set_option maxRecDepth 100000 in
theorem Reader_next (g : Nat) (w : World) (bs : List Int) (bad : Bool) (hI : IsRd w g bs bad) (h8 : Bytes8 bs) (hl : bs.length < 1000000000) (r : Int × Int) (hr : r = if bad = true then (0, 0) else nxt 0 0 bs) :
    Calls Try.prog 56 #[.pointer (some ⟨g, 0, none⟩)] w fun e w' => e = .returned (.tuple #[.int .i64 r.1, .int .i64 r.2]) ∧ Drawn0 w w' := by
  obtain ⟨A, c, hb, hc, hrd, hfar⟩ := hI
  have hc0 : w.cell? ⟨g, 0, none⟩ = some (.slice A bs.length c) := (blk_cell hb 0).trans rfl
  have hc1 : w.cell? ⟨g, 1, none⟩ = some (.bool bad) := (blk_cell hb 1).trans rfl
  have HR := Aside0.mk hrd
  have HRR := Aside0.mk hr
  have H8 := Aside0.mk h8
  have HL := Aside0.mk hl
  clear hb hrd hfar hr h8 hl
  cases bad with
  | true =>
    have hr2 := HRR.out
    rw [if_pos rfl] at hr2
    subst hr2
    clear HRR
    go_enter Try.func56, Try.ntmps56
    go_wp2
    go_ret2
    exact ⟨rfl, by repeat (first | exact Drawn0.refl _ | apply Drawn0.step)⟩
  | false =>
    have hr2 := HRR.out
    rw [if_neg (by decide)] at hr2
    have HRR := Aside0.mk hr2
    clear hr2
    go_enter Try.func56, Try.ntmps56
    go_wp2
    go_loopg [4, 16] bs.length (fun kq v4 v16 w' => ∃ (u x : Int), v4 = .int .u64 u ∧ v16 = .int .i64 x ∧ Aside0 (0 ≤ x ∧ x ≤ (bs.length : Int) ∧ x ≤ 9 ∧ (kq : Int) = bs.length - x) ∧ Aside0 (0 ≤ u ∧ u < 2 ^ (7 * x.toNat)) ∧ Aside0 (r = nxt x.toNat u (bs.drop x.toNat)) ∧ Drawn0 w w')
    case atStart => exact ⟨0, 0, rfl, rfl, ⟨by omega, by omega, by omega, by omega⟩, ⟨by decide⟩, HRR, Drawn0.refl _⟩
    case round =>
      clear HRR
      obtain ⟨u, x, rfl, rfl, HK, HU, HN, ⟨m1, rfl⟩⟩ := hrel
      by_cases hlt : x < (bs.length : Int)
      · have c3b0 : decide (x < (bs.length : Int)) = true := decide_eq_true hlt
        have p155 := HK.out.1
        have q155 := hlt
        obtain ⟨ad155, e155, hx155_0⟩ := HR.out.at_ x p155 q155
        cases e155
        have c4b0 : decide (0 ≤ x) = true := decide_eq_true p155
        have hx9 := HK.out.2.2.1
        have h80 := H8.out (rd bs x) (rd_mem bs x p155 hlt)
        have ha := and127 (rd bs x) h80.1 h80.2
        have HND := Aside0.mk (HN.out.trans (nxt_drop bs x u p155 hlt))
        have hxl := hlt
        obtain ⟨b, hb⟩ : ∃ b, b = rd bs x := ⟨_, rfl⟩
        rw [← hb] at ha hx155_0 h80 HND
        have h0x := HK.out.1
        clear hb hlt HN
        have hb0 := h80.1
        have hb1 := h80.2
        have HLX := Aside0.mk hxl
        by_cases e1 : x = 9
        · have d1 : (x == 9) = true := beq_iff_eq.mpr e1
          by_cases e2 : 1 < b
          · have d2 : decide (1 < b) = true := decide_eq_true e2
            have HRV := Aside0.mk (HND.out.trans (if_pos (by omega)))
            clear HND
            have hr2 := HRV.out
            subst hr2
            clear HRV
            clear hb0 hb1 h80
            try clear e1
            try clear e2
            try clear e3
            try clear e4
            try clear e5
            go_wp2
            go_ret2
            exact ⟨rfl, by repeat (first | exact Drawn0.refl _ | apply Drawn0.step)⟩
          · have d2 : decide (1 < b) = false := decide_eq_false e2
            have d3 : decide (0 < x) = true := decide_eq_true (by omega)
            by_cases e4 : b = 0
            · have d4 : (b == 0) = true := beq_iff_eq.mpr e4
              have HRV := Aside0.mk (HND.out.trans (if_pos (by omega)))
              clear HND
              have hr2 := HRV.out
              subst hr2
              clear HRV
              clear hb0 hb1 h80
              try clear e1
              try clear e2
              try clear e3
              try clear e4
              try clear e5
              go_wp2
              go_ret2
              exact ⟨rfl, by repeat (first | exact Drawn0.refl _ | apply Drawn0.step)⟩
            · have d4 : (b == 0) = false := beq_eq_false_iff_ne.mpr e4
              obtain ⟨hv, hU0, hU1, hU2⟩ := step_val u b x h0x hx9 hb0 hb1 (by omega) HU.out.1 HU.out.2
              obtain ⟨U, hUe⟩ : ∃ U, U = u + b % 128 * 128 ^ x.toNat := ⟨_, rfl⟩
              rw [← hUe] at hv hU0 hU1 hU2 HND
              clear hUe
              have c8 : decide (b < 128) = true := decide_eq_true (by omega)
              have HRV := Aside0.mk (HND.out.trans ((if_neg (by omega)).trans (if_pos (by omega))))
              have huz := unzz_bits U hU0 hU1
              simp only [i64_w] at huz
              obtain ⟨Z, hZ⟩ : ∃ Z, Z = unzz U := ⟨_, rfl⟩
              rw [← hZ] at huz HRV
              have hr2 := HRV.out
              subst hr2
              clear hZ hU0 hU1 hU2 HND HRV hb0 hb1 h80
              try clear e1
              try clear e2
              try clear e3
              try clear e4
              try clear e5
              go_wp2
              go_ret2
              exact ⟨by first | rfl | (simp; done) | (simp [*]; done), by repeat (first | exact Drawn0.refl _ | apply Drawn0.step)⟩
        · have d1 : (x == 9) = false := beq_eq_false_iff_ne.mpr e1
          by_cases e3 : 0 < x
          · have d3 : decide (0 < x) = true := decide_eq_true e3
            by_cases e4 : b = 0
            · have d4 : (b == 0) = true := beq_iff_eq.mpr e4
              have HRV := Aside0.mk (HND.out.trans (if_pos (by omega)))
              clear HND
              have hr2 := HRV.out
              subst hr2
              clear HRV
              clear hb0 hb1 h80
              try clear e1
              try clear e2
              try clear e3
              try clear e4
              try clear e5
              go_wp2
              go_ret2
              exact ⟨rfl, by repeat (first | exact Drawn0.refl _ | apply Drawn0.step)⟩
            · have d4 : (b == 0) = false := beq_eq_false_iff_ne.mpr e4
              by_cases e5 : b < 128
              · skip
                obtain ⟨hv, hU0, hU1, hU2⟩ := step_val u b x h0x hx9 hb0 hb1 (by omega) HU.out.1 HU.out.2
                obtain ⟨U, hUe⟩ : ∃ U, U = u + b % 128 * 128 ^ x.toNat := ⟨_, rfl⟩
                rw [← hUe] at hv hU0 hU1 hU2 HND
                clear hUe
                have c8 : decide (b < 128) = true := decide_eq_true (by omega)
                have HRV := Aside0.mk (HND.out.trans ((if_neg (by omega)).trans (if_pos (by omega))))
                have huz := unzz_bits U hU0 hU1
                simp only [i64_w] at huz
                obtain ⟨Z, hZ⟩ : ∃ Z, Z = unzz U := ⟨_, rfl⟩
                rw [← hZ] at huz HRV
                have hr2 := HRV.out
                subst hr2
                clear hZ hU0 hU1 hU2 HND HRV hb0 hb1 h80
                try clear e1
                try clear e2
                try clear e3
                try clear e4
                try clear e5
                go_wp2
                go_ret2
                exact ⟨by first | rfl | (simp; done) | (simp [*]; done), by repeat (first | exact Drawn0.refl _ | apply Drawn0.step)⟩
              · skip
                obtain ⟨hv, hU0, hU1, hU2⟩ := step_val u b x h0x hx9 hb0 hb1 (by omega) HU.out.1 HU.out.2
                obtain ⟨U, hUe⟩ : ∃ U, U = u + b % 128 * 128 ^ x.toNat := ⟨_, rfl⟩
                rw [← hUe] at hv hU0 hU1 hU2 HND
                clear hUe
                have c8 : decide (b < 128) = false := decide_eq_false (by omega)
                have HRV := Aside0.mk (HND.out.trans ((if_neg (by omega)).trans (if_neg (by omega))))
                have HX8 : Aside0 (x < 9) := ⟨by omega⟩; have HU2 := Aside0.mk (⟨hU0, hU2 (by omega)⟩ : 0 ≤ U ∧ U < 2 ^ (7 * (x + 1).toNat))
                clear hU0 hU1 hU2 HND hb0 hb1 h80
                try clear e1
                try clear e2
                try clear e3
                try clear e4
                try clear e5
                go_wp2
                go_roundg (bs.length - (x + 1)).toNat
                case measure => have := HK.out; have := HLX.out; omega
                case rel => exact ⟨U, x + 1, rfl, by first | rfl | (rw [show wrap64 (x + 1) = x + 1 from by unfold wrap64; omega]), ⟨by omega, by have := HLX.out; omega, by have := HX8.out; omega, by have := HLX.out; omega⟩, HU2, HRV, by repeat (first | exact Drawn0.refl _ | apply Drawn0.step)⟩
          · have d3 : decide (0 < x) = false := decide_eq_false e3
            by_cases e5 : b < 128
            · skip
              obtain ⟨hv, hU0, hU1, hU2⟩ := step_val u b x h0x hx9 hb0 hb1 (by omega) HU.out.1 HU.out.2
              obtain ⟨U, hUe⟩ : ∃ U, U = u + b % 128 * 128 ^ x.toNat := ⟨_, rfl⟩
              rw [← hUe] at hv hU0 hU1 hU2 HND
              clear hUe
              have c8 : decide (b < 128) = true := decide_eq_true (by omega)
              have HRV := Aside0.mk (HND.out.trans ((if_neg (by omega)).trans (if_pos (by omega))))
              have huz := unzz_bits U hU0 hU1
              simp only [i64_w] at huz
              obtain ⟨Z, hZ⟩ : ∃ Z, Z = unzz U := ⟨_, rfl⟩
              rw [← hZ] at huz HRV
              have hr2 := HRV.out
              subst hr2
              clear hZ hU0 hU1 hU2 HND HRV hb0 hb1 h80
              try clear e1
              try clear e2
              try clear e3
              try clear e4
              try clear e5
              go_wp2
              go_ret2
              exact ⟨by first | rfl | (simp; done) | (simp [*]; done), by repeat (first | exact Drawn0.refl _ | apply Drawn0.step)⟩
            · skip
              obtain ⟨hv, hU0, hU1, hU2⟩ := step_val u b x h0x hx9 hb0 hb1 (by omega) HU.out.1 HU.out.2
              obtain ⟨U, hUe⟩ : ∃ U, U = u + b % 128 * 128 ^ x.toNat := ⟨_, rfl⟩
              rw [← hUe] at hv hU0 hU1 hU2 HND
              clear hUe
              have c8 : decide (b < 128) = false := decide_eq_false (by omega)
              have HRV := Aside0.mk (HND.out.trans ((if_neg (by omega)).trans (if_neg (by omega))))
              have HX8 : Aside0 (x < 9) := ⟨by omega⟩; have HU2 := Aside0.mk (⟨hU0, hU2 (by omega)⟩ : 0 ≤ U ∧ U < 2 ^ (7 * (x + 1).toNat))
              clear hU0 hU1 hU2 HND hb0 hb1 h80
              try clear e1
              try clear e2
              try clear e3
              try clear e4
              try clear e5
              go_wp2
              go_roundg (bs.length - (x + 1)).toNat
              case measure => have := HK.out; have := HLX.out; omega
              case rel => exact ⟨U, x + 1, rfl, by first | rfl | (rw [show wrap64 (x + 1) = x + 1 from by unfold wrap64; omega]), ⟨by omega, by have := HLX.out; omega, by have := HX8.out; omega, by have := HLX.out; omega⟩, HU2, HRV, by repeat (first | exact Drawn0.refl _ | apply Drawn0.step)⟩
      · have c3b0 : decide (x < (bs.length : Int)) = false := decide_eq_false hlt
        have hr2 := HN.out
        rw [List.drop_eq_nil_of_le (by have := HK.out.1; omega)] at hr2
        simp only [nxt] at hr2
        subst hr2
        clear HN
        try clear e1
        try clear e2
        try clear e3
        try clear e4
        try clear e5
        go_wp2
        go_ret2
        exact ⟨rfl, by repeat (first | exact Drawn0.refl _ | apply Drawn0.step)⟩
end Go.Proofs.Ytnlbmhojjjjpdaa.Pk
