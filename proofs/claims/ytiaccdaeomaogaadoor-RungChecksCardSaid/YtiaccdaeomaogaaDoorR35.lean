/- Texts of one claim, slimmed and merged by slim.py. -/
import Derived.Test.YtiaccdaeomaogaaDoorR4
import Derived.Test.YtiaccdaeomaogaaDoorR20
import Derived.Test.YtiaccdaeomaogaaDoorR30
import Derived.Test.YtiaccdaeomaogaaDoorR33
import Derived.Test.YtiaccdaeomaogaaDoorR34
namespace Go.Proofs.YtiaccdaeomaogaaDoor.F
open Go.RowKit Go.Proofs.YtiaccdaeomaogaaDoorW.PrintWords Go.Proofs.YtiaccdaeomaogaaDoorW.PrintLast Go.Proofs.YtiaccdaeomaogaaDoorW.PrintMore
attribute [local go_sem] max2_int min2_int max_two min_two max_three min_three max_four min_four   -- for this text's walks alone
set_option linter.unusedVariables false
set_option linter.unusedSimpArgs false
mutual
def malthouseref09_Code.l0 : Nat → List (S40) → List ByteArray → List ByteArray → Bool → Int → Int → Option (Int)
  | 0, _, _, _, _, _, _ => none
  | k + 1, x0, x1, x2, x3, x9, x10 => if x10 < (x0.length : Int) then (if 0 ≤ x10 then ((malthouseref09_bit.f ((rd_T40 x0 x10).f0)).bind fun t103 => (if ((rd_T40 x0 x10).f2.f0) = 0 then (if ((rd_T40 x0 x10).f2.f1) = 0 then (if ((rd_T40 x0 x10).f2.f2).toList = ([] : List UInt8) then (malthouseref09_Code.j1 k x0 x1 x2 x3 x9 x10 t103 ((((rd_T40 x0 x10).f2.f3).length : Int) == 0) ((rd_T40 x0 x10).f0) ((rd_T40 x0 x10).f1) ((rd_T40 x0 x10).f2.f0) ((rd_T40 x0 x10).f2.f1) ((rd_T40 x0 x10).f2.f2) ((rd_T40 x0 x10).f2.f3)) else (malthouseref09_Code.j1 k x0 x1 x2 x3 x9 x10 t103 false ((rd_T40 x0 x10).f0) ((rd_T40 x0 x10).f1) ((rd_T40 x0 x10).f2.f0) ((rd_T40 x0 x10).f2.f1) ((rd_T40 x0 x10).f2.f2) ((rd_T40 x0 x10).f2.f3))) else (malthouseref09_Code.j1 k x0 x1 x2 x3 x9 x10 t103 false ((rd_T40 x0 x10).f0) ((rd_T40 x0 x10).f1) ((rd_T40 x0 x10).f2.f0) ((rd_T40 x0 x10).f2.f1) ((rd_T40 x0 x10).f2.f2) ((rd_T40 x0 x10).f2.f3))) else (malthouseref09_Code.j1 k x0 x1 x2 x3 x9 x10 t103 false ((rd_T40 x0 x10).f0) ((rd_T40 x0 x10).f1) ((rd_T40 x0 x10).f2.f0) ((rd_T40 x0 x10).f2.f1) ((rd_T40 x0 x10).f2.f2) ((rd_T40 x0 x10).f2.f3)))) else (none)) else (if x9 = 1 then (some 0) else (some 1))
def malthouseref09_Code.j1 : Nat → List (S40) → List ByteArray → List ByteArray → Bool → Int → Int → Bool → Bool → Int → ByteArray → Int → Int → ByteArray → List (S34) → Option (Int)
  | 0, _, _, _, _, _, _, _, _, _, _, _, _, _, _ => none
  | k + 1, x0, x1, x2, x3, x9, x10, x12, x13, x103000, x103001, x103002, x103003, x103004, x103005 => if x103000 < 0 then (malthouseref09_Code.j2 k x0 x1 x2 x3 x9 x10 x12 true x103000 x103001 x103002 x103003 x103004 x103005) else (if x103000 > 9 then (malthouseref09_Code.j2 k x0 x1 x2 x3 x9 x10 x12 true x103000 x103001 x103002 x103003 x103004 x103005) else (if x12 = true then (if x103000 = 2 then (malthouseref09_Code.j2 k x0 x1 x2 x3 x9 x10 x12 false x103000 x103001 x103002 x103003 x103004 x103005) else (malthouseref09_Code.j2 k x0 x1 x2 x3 x9 x10 x12 (!x13) x103000 x103001 x103002 x103003 x103004 x103005)) else (if x103001.toList = ([] : List UInt8) then (if x103000 = 2 then (malthouseref09_Code.j2 k x0 x1 x2 x3 x9 x10 x12 false x103000 x103001 x103002 x103003 x103004 x103005) else (malthouseref09_Code.j2 k x0 x1 x2 x3 x9 x10 x12 (!x13) x103000 x103001 x103002 x103003 x103004 x103005)) else (malthouseref09_Code.j2 k x0 x1 x2 x3 x9 x10 x12 true x103000 x103001 x103002 x103003 x103004 x103005))))
def malthouseref09_Code.j2 : Nat → List (S40) → List ByteArray → List ByteArray → Bool → Int → Int → Bool → Bool → Int → ByteArray → Int → Int → ByteArray → List (S34) → Option (Int)
  | 0, _, _, _, _, _, _, _, _, _, _, _, _, _, _ => none
  | k + 1, x0, x1, x2, x3, x9, x10, x12, x82, x103000, x103001, x103002, x103003, x103004, x103005 => if x82 = true then (some 1) else (if x12 = true then ((malthouseref09_Place.f k x1 x103001).bind fun t104 => (malthouseref09_Code.j3 k x0 x1 x2 x3 x9 x10 (decide (t104 < 0)) x103000 x103001 x103002 x103003 x103004 x103005)) else (malthouseref09_Code.j3 k x0 x1 x2 x3 x9 x10 false x103000 x103001 x103002 x103003 x103004 x103005))
def malthouseref09_Code.j3 : Nat → List (S40) → List ByteArray → List ByteArray → Bool → Int → Int → Bool → Int → ByteArray → Int → Int → ByteArray → List (S34) → Option (Int)
  | 0, _, _, _, _, _, _, _, _, _, _, _, _, _ => none
  | k + 1, x0, x1, x2, x3, x9, x10, x90, x103000, x103001, x103002, x103003, x103004, x103005 => if x90 = true then (some 21) else (if x103000 = 2 then ((malthouseref02_Names.f k x103002 x103003 x103004 x103005).bind fun t105 => (malthouseref09_Code.l1 k x0 x1 x2 x3 x9 x10 t105 0 x103000 x103001 x103002 x103003 x103004 x103005)) else ((malthouseref09_needs.f k x103000).bind fun t112 => (if x9 < t112 then (some 1) else (if (wrap64 ((wrap64 (x9 - t112)) + 1)) > 8 then (some 1) else (malthouseref09_Code.l0 k x0 x1 x2 x3 (wrap64 ((wrap64 (x9 - t112)) + 1)) (wrap64 (x10 + 1)))))))
def malthouseref09_Code.l1 : Nat → List (S40) → List ByteArray → List ByteArray → Bool → Int → Int → List ByteArray → Int → Int → ByteArray → Int → Int → ByteArray → List (S34) → Option (Int)
  | 0, _, _, _, _, _, _, _, _, _, _, _, _, _, _ => none
  | k + 1, x0, x1, x2, x3, x9, x10, x14, x15, x103000, x103001, x103002, x103003, x103004, x103005 => if x15 < (x14.length : Int) then (malthouseref09_Code.j5 k x0 x1 x2 x3 x9 x10 x14 x15 (!x3) x103000 x103001 x103002 x103003 x103004 x103005) else (malthouseref09_Code.j5 k x0 x1 x2 x3 x9 x10 x14 x15 false x103000 x103001 x103002 x103003 x103004 x103005)
def malthouseref09_Code.j5 : Nat → List (S40) → List ByteArray → List ByteArray → Bool → Int → Int → List ByteArray → Int → Bool → Int → ByteArray → Int → Int → ByteArray → List (S34) → Option (Int)
  | 0, _, _, _, _, _, _, _, _, _, _, _, _, _, _, _ => none
  | k + 1, x0, x1, x2, x3, x9, x10, x14, x15, x104, x103000, x103001, x103002, x103003, x103004, x103005 => if x104 = true then (if 0 ≤ x15 then (if x15 < (x14.length : Int) then ((malthouseref09_Place.f k x2 (rdOf ByteArray.empty x14 x15)).bind fun t109 => (if t109 < 0 then (some 21) else (malthouseref09_Code.l1 k x0 x1 x2 x3 x9 x10 x14 (wrap64 (x15 + 1)) x103000 x103001 x103002 x103003 x103004 x103005))) else (none)) else (none)) else ((malthouseref02_May.f k x103002 x103003 x103004 x103005).bind fun t110 => (if t110 = true then ((malthouseref09_needs.f k x103000).bind fun t111 => (if x9 < t111 then (some 1) else (if (wrap64 ((wrap64 (x9 - t111)) + 1)) > 8 then (some 1) else (malthouseref09_Code.l0 k x0 x1 x2 x3 (wrap64 ((wrap64 (x9 - t111)) + 1)) (wrap64 (x10 + 1)))))) else (some 1)))
end
def malthouseref09_Code.f (k : Nat) (l0 : List (S40)) (l1 : List ByteArray) (l2 : List ByteArray) (a3 : Bool) : Option (Int) := if (l0.length : Int) > 12 then (some 2) else (malthouseref09_Code.l0 k l0 l1 l2 a3 0 0)
set_option maxHeartbeats 8000000 in
set_option maxRecDepth 100000 in
theorem malthouseref09_Code.calls (k : Nat) (A0 : Option Addr) (c0 : Nat) (l0 : List (S40)) (A1 : Option Addr) (c1 : Nat) (l1 : List ByteArray) (A2 : Option Addr) (c2 : Nat) (l2 : List ByteArray) (a3 : Bool) (r : Int) (w : World) (hr0 : Kd.C k40 w A0 l0.length l0) (hc0 : l0.length ≤ c0) (hr1 : Kd.C Kd.string w A1 l1.length l1) (hc1 : l1.length ≤ c1) (hr2 : Kd.C Kd.string w A2 l2.length l2) (hc2 : l2.length ≤ c2) (h : malthouseref09_Code.f k l0 l1 l2 a3 = some r) :
  Calls Tryd.prog 95 #[.slice A0 l0.length c0, .slice A1 l1.length c1, .slice A2 l2.length c2, .bool a3] w fun e w' => e = .returned (.int .i64 r) ∧ Below w.heap.size w w' := by
 have hu40 := Tryd.underlying40
 have hu34 := Tryd.underlying34
 have HR0 := Aside0.mk hr0
 have HC0 := Aside0.mk hc0
 clear hr0 hc0
 have HR1 := Aside0.mk hr1
 have HC1 := Aside0.mk hc1
 clear hr1 hc1
 have HR2 := Aside0.mk hr2
 have HC2 := Aside0.mk hc2
 clear hr2 hc2
 have HB := Aside0.mk (Below.refl w.heap.size w)
 have H : (if (l0.length : Int) > 12 then (some 2) else (malthouseref09_Code.l0 k l0 l1 l2 a3 0 0)) = some r := h
 clear h
 by_cases c5 : (l0.length : Int) > 12
 ·rw [if_pos c5] at H
  have c5b0 : decide (12 < (l0.length : Int)) = true := decide_eq_true c5
  have c5b1 : decide (12 < l0.length) = true := decide_eq_true (by omega)
  clear c5
  obtain rfl := Option.some.inj H
  go_enter Tryd.func95, Tryd.ntmps95
  go_wp2
  go_ret
  exact qr
 rw [if_neg c5] at H
 have c5b0 : decide (12 < (l0.length : Int)) = false := decide_eq_false c5
 have c5b1 : decide (12 < l0.length) = false := decide_eq_false (by omega)
 clear c5
 have H' := Aside0.mk H
 clear H
 go_enter Tryd.func95, Tryd.ntmps95
 go_wp2
 go_loopg [9, 10] k (fun kq v9 v10 w' => ∃ (x9_1 : Int) (x10_1 : Int), v9 = .int .i64 x9_1 ∧ v10 = .int .i64 x10_1 ∧ Aside0 (malthouseref09_Code.l0 kq l0 l1 l2 a3 x9_1 x10_1 = some r) ∧ Aside0 (kq ≤ k) ∧ Aside0 (Below w.heap.size w w'))
 case atStart => exact ⟨(0), (0), qv, qv, H', ⟨Nat.le_refl _⟩, qB⟩
 case round =>
  clear H'
  obtain ⟨x9_1, x10_1, rfl, rfl, HA, HK1, HB⟩ := hrel
  cases gk with
  | zero => exact absurd HA.out (by simp [malthouseref09_Code.l0])
  | succ k1 =>
   have H := HA.out
   clear HA
   simp only [malthouseref09_Code.l0] at H
   by_cases c6 : x10_1 < (l0.length : Int)
   ·rw [if_pos c6] at H
    have c6b0 : decide (x10_1 < (l0.length : Int)) = true := decide_eq_true c6
    clear c6
    by_cases c7 : 0 ≤ x10_1
    ·rw [if_pos c7] at H
     have c7b0 : decide (0 ≤ x10_1) = true := decide_eq_true c7
     clear c7
     replace H := qi H
     obtain ⟨t103, A8, H⟩ := H
     have HC9 := Aside0.mk H
     clear H
     have p101 : 0 ≤ (x10_1 : Int) := qa
     have q101 : x10_1 < (l0.length : Int) := qa
     obtain ⟨ad101, A101_5, c101_5, e101, hx101_0, hx101_1, hx101_2, hx101_3, hx101_4, hx101_5, hl101_5, hi101_5⟩ := at_T40 HR0.out x10_1 p101 q101
     cases e101
     replace hx101_0 := qc HB.out hx101_0
     replace hx101_1 := qc HB.out hx101_1
     replace hx101_2 := qc HB.out hx101_2
     replace hx101_3 := qc HB.out hx101_3
     replace hx101_4 := qc HB.out hx101_4
     replace hx101_5 := qc HB.out hx101_5
     have HR101_5 := Aside0.mk hi101_5
     have HC101_5 := Aside0.mk hl101_5
     clear hi101_5 hl101_5
     replace p101 := eq_true p101
     replace q101 := eq_true q101
     go_upto_region 9 with (first | ((with_reducible refine gate_dst (N := 11) rfl ?_); (try (refine gate_guard (by rfl) ?_; dsimp only)); refine box_event ?hg (N := 11) ?hd (cs := #[.int .i64 0, .string (⟨#[]⟩ : ByteArray), .int .i64 0, .int .i64 0, .string (⟨#[]⟩ : ByteArray), .slice none 0 0]) (t := 40) ?hr ?_; (case hd => rfl); (case hg => rfl); (case hr => first | (go_simp; done) | (go_simp; rfl)); intro gb102 hg w10 hbox hb; have n0_ := qs hb; have n1_ := Aside0.mk (hbox); have n2_ := Aside0.mk ((by rw [hg]; exact (below_size qb) : w.heap.size ≤ gb102)); have n3_ := Aside0.mk ((by rw [hg]; exact (below_size qb) : w.heap.size ≤ gb102)); clear HB; have HB := n0_; have BK102 := n1_; have GW102 := n2_; have GE102 := n3_; clear n0_ n1_ n2_ n3_; clear hb hbox hg; obtain ⟨_, _, _, _, _, _, _, _, _, _, _, _⟩ := q6 BK102.out) | ((with_reducible refine gate_callee (f := 127) rfl ?_); refine goesL_ (some 33) rfl rfl Tryd.func127 (by kernel_rfl) rfl #[.int .i64 ((rd_T40 l0 x10_1).f0)] rfl qm ?_; (with_reducible refine (malthouseref09_bit.calls ((rd_T40 l0 x10_1).f0) t103 _ A8.out).mono ?_); rintro e w' ⟨rfl, ⟨nd, rfl⟩⟩; refine ⟨_, rfl, ?_⟩))
     (try simp only [Act.put, List.setIfInBounds_toArray, List.set_cons_zero, List.set_cons_succ])
     go_cut [13] (fun v13 wc => ∃ (kq : Nat) (x13_8 : Bool), v13 = .bool x13_8 ∧ Aside0 (malthouseref09_Code.j1 kq l0 l1 l2 a3 x9_1 x10_1 t103 x13_8 ((rd_T40 l0 x10_1).f0) ((rd_T40 l0 x10_1).f1) ((rd_T40 l0 x10_1).f2.f0) ((rd_T40 l0 x10_1).f2.f1) ((rd_T40 l0 x10_1).f2.f2) ((rd_T40 l0 x10_1).f2.f3) = some r) ∧ Aside0 (kq ≤ k1) ∧ Aside0 (wc.heap[gb102]? = some (.cells #[.int .i64 ((rd_T40 l0 x10_1).f0), .string ((rd_T40 l0 x10_1).f1), .int .i64 ((rd_T40 l0 x10_1).f2.f0), .int .i64 ((rd_T40 l0 x10_1).f2.f1), .string ((rd_T40 l0 x10_1).f2.f2), (.slice A101_5 ((rd_T40 l0 x10_1).f2.f3).length c101_5)] 40 (0, 0))) ∧ Aside0 (Below w.heap.size w wc))
     case first =>
      have H := HC9.out
      clear HC9
      by_cases c12 : ((rd_T40 l0 x10_1).f2.f0) = 0
      ·rw [if_pos c12] at H
       obtain ⟨c12b0, c12b1⟩ := qe c12
       clear c12
       (first | rw [c12b0] | (simp only [i64_w, i32_w]; rw [c12b0]) | skip)
       by_cases c13 : ((rd_T40 l0 x10_1).f2.f1) = 0
       ·rw [if_pos c13] at H
        obtain ⟨c13b0, c13b1⟩ := qe c13
        clear c13
        by_cases c14 : ((rd_T40 l0 x10_1).f2.f2).toList = ([] : List UInt8)
        ·rw [if_pos c14] at H
         obtain ⟨c14b0, c14b1⟩ := qe c14
         clear c14
         have H' := Aside0.mk H
         clear H
         obtain ⟨_, _, _, _, _, _, _, _, _, _, _, _⟩ := q6 BK102.out
         go_wp2
         go_meet
         case rel => exact ⟨_, (((((rd_T40 l0 x10_1).f2.f3).length : Int) == 0)), qv, H', ⟨by have := HK1.out; first | omega | exact Nat.le_refl _⟩, qY102, qB⟩
        rw [if_neg c14] at H
        obtain ⟨c14b0, c14b1⟩ := qd c14
        have H' := Aside0.mk H
        clear H
        obtain ⟨_, _, _, _, _, _, _, _, _, _, _, _⟩ := q6 BK102.out
        go_wp2
        go_meet
        case rel => exact ⟨_, (false), qv, H', ⟨by have := HK1.out; first | omega | exact Nat.le_refl _⟩, qY102, qB⟩
       rw [if_neg c13] at H
       obtain ⟨c13b0, c13b1⟩ := qd c13
       have H' := Aside0.mk H
       clear H
       obtain ⟨_, _, _, _, _, _, _, _, _, _, _, _⟩ := q6 BK102.out
       go_wp2
       go_meet
       case rel => exact ⟨_, (false), qv, H', ⟨by have := HK1.out; first | omega | exact Nat.le_refl _⟩, qY102, qB⟩
      rw [if_neg c12] at H
      obtain ⟨c12b0, c12b1⟩ := qd c12
      (first | rw [c12b0] | (simp only [i64_w, i32_w]; rw [c12b0]) | skip)
      have H' := Aside0.mk H
      clear H
      obtain ⟨_, _, _, _, _, _, _, _, _, _, _, _⟩ := q6 BK102.out
      go_wp2
      go_meet
      case rel => exact ⟨_, (false), qv, H', ⟨by have := HK1.out; first | omega | exact Nat.le_refl _⟩, qY102, qB⟩
     clear HC9
     obtain ⟨kq, x13_8, rfl, HA, HJ8, BK102, HB⟩ := hcut
     cases kq with
     | zero => exact absurd HA.out (by simp [malthouseref09_Code.j1])
     | succ kj8 =>
      have H := HA.out
      clear HA
      simp only [malthouseref09_Code.j1] at H
      have HC19 := Aside0.mk H
      clear H
      go_upto_region 10 with (fail)
      go_cut [82] (fun v82 wc => ∃ (kq : Nat) (x82_18 : Bool), v82 = .bool x82_18 ∧ Aside0 (malthouseref09_Code.j2 kq l0 l1 l2 a3 x9_1 x10_1 t103 x82_18 ((rd_T40 l0 x10_1).f0) ((rd_T40 l0 x10_1).f1) ((rd_T40 l0 x10_1).f2.f0) ((rd_T40 l0 x10_1).f2.f1) ((rd_T40 l0 x10_1).f2.f2) ((rd_T40 l0 x10_1).f2.f3) = some r) ∧ Aside0 (kq ≤ kj8) ∧ Aside0 (wc.heap[gb102]? = some (.cells #[.int .i64 ((rd_T40 l0 x10_1).f0), .string ((rd_T40 l0 x10_1).f1), .int .i64 ((rd_T40 l0 x10_1).f2.f0), .int .i64 ((rd_T40 l0 x10_1).f2.f1), .string ((rd_T40 l0 x10_1).f2.f2), (.slice A101_5 ((rd_T40 l0 x10_1).f2.f3).length c101_5)] 40 (0, 0))) ∧ Aside0 (Below w.heap.size w wc))
      case first =>
       have H := HC19.out
       clear HC19
       by_cases c20 : ((rd_T40 l0 x10_1).f0) < 0
       ·rw [if_pos c20] at H
        have c20b0 : decide (((rd_T40 l0 x10_1).f0) < 0) = true := decide_eq_true c20
        clear c20
        (first | rw [c20b0] | (simp only [i64_w, i32_w]; rw [c20b0]) | skip)
        have H' := Aside0.mk H
        clear H
        obtain ⟨_, _, _, _, _, _, _, _, _, _, _, _⟩ := q6 BK102.out
        go_wp2
        go_meet
        case rel => exact ⟨_, (true), qv, H', ⟨by have := HK1.out; have := HJ8.out; first | omega | exact Nat.le_refl _⟩, qk102, qB⟩
       rw [if_neg c20] at H
       have c20b0 : decide (((rd_T40 l0 x10_1).f0) < 0) = false := decide_eq_false c20
       clear c20
       (first | rw [c20b0] | (simp only [i64_w, i32_w]; rw [c20b0]) | skip)
       by_cases c22 : ((rd_T40 l0 x10_1).f0) > 9
       ·rw [if_pos c22] at H
        have c22b0 : decide (9 < ((rd_T40 l0 x10_1).f0)) = true := decide_eq_true c22
        clear c22
        have H' := Aside0.mk H
        clear H
        obtain ⟨_, _, _, _, _, _, _, _, _, _, _, _⟩ := q6 BK102.out
        go_wp2
        go_meet
        case rel => exact ⟨_, (true), qv, H', ⟨by have := HK1.out; have := HJ8.out; first | omega | exact Nat.le_refl _⟩, qk102, qB⟩
       rw [if_neg c22] at H
       have c22b0 : decide (9 < ((rd_T40 l0 x10_1).f0)) = false := decide_eq_false c22
       clear c22
       by_cases c24 : t103 = true
       ·subst c24
        rw [if_pos rfl] at H
        by_cases c25 : ((rd_T40 l0 x10_1).f0) = 2
        ·rw [if_pos c25] at H
         obtain ⟨c25b0, c25b1⟩ := qe c25
         clear c25
         have H' := Aside0.mk H
         clear H
         obtain ⟨_, _, _, _, _, _, _, _, _, _, _, _⟩ := q6 BK102.out
         go_wp2
         go_meet
         case rel => exact ⟨_, (false), qv, H', ⟨by have := HK1.out; have := HJ8.out; first | omega | exact Nat.le_refl _⟩, qk102, qB⟩
        rw [if_neg c25] at H
        obtain ⟨c25b0, c25b1⟩ := qd c25
        have H' := Aside0.mk H
        clear H
        obtain ⟨_, _, _, _, _, _, _, _, _, _, _, _⟩ := q6 BK102.out
        go_wp2
        go_meet
        case rel => exact ⟨_, (!x13_8), qv, H', ⟨by have := HK1.out; have := HJ8.out; first | omega | exact Nat.le_refl _⟩, qk102, qB⟩
       replace c24 := Bool.eq_false_iff.mpr c24
       subst c24
       rw [if_neg qf] at H
       by_cases c28 : ((rd_T40 l0 x10_1).f1).toList = ([] : List UInt8)
       ·rw [if_pos c28] at H
        obtain ⟨c28b0, c28b1⟩ := qe c28
        clear c28
        by_cases c29 : ((rd_T40 l0 x10_1).f0) = 2
        ·rw [if_pos c29] at H
         obtain ⟨c29b0, c29b1⟩ := qe c29
         clear c29
         have H' := Aside0.mk H
         clear H
         obtain ⟨_, _, _, _, _, _, _, _, _, _, _, _⟩ := q6 BK102.out
         go_wp2
         go_meet
         case rel => exact ⟨_, (false), qv, H', ⟨by have := HK1.out; have := HJ8.out; first | omega | exact Nat.le_refl _⟩, qk102, qB⟩
        rw [if_neg c29] at H
        obtain ⟨c29b0, c29b1⟩ := qd c29
        have H' := Aside0.mk H
        clear H
        obtain ⟨_, _, _, _, _, _, _, _, _, _, _, _⟩ := q6 BK102.out
        go_wp2
        go_meet
        case rel => exact ⟨_, (!x13_8), qv, H', ⟨by have := HK1.out; have := HJ8.out; first | omega | exact Nat.le_refl _⟩, qk102, qB⟩
       rw [if_neg c28] at H
       obtain ⟨c28b0, c28b1⟩ := qd c28
       have H' := Aside0.mk H
       clear H
       obtain ⟨_, _, _, _, _, _, _, _, _, _, _, _⟩ := q6 BK102.out
       go_wp2
       go_meet
       case rel => exact ⟨_, (true), qv, H', ⟨by have := HK1.out; have := HJ8.out; first | omega | exact Nat.le_refl _⟩, qk102, qB⟩
      clear HC19
      obtain ⟨kq, x82_18, rfl, HA, HJ18, BK102, HB⟩ := hcut
      cases kq with
      | zero => exact absurd HA.out (by simp [malthouseref09_Code.j2])
      | succ kj18 =>
       have H := HA.out
       clear HA
       simp only [malthouseref09_Code.j2] at H
       by_cases c33 : x82_18 = true
       ·subst c33
        rw [if_pos rfl] at H
        obtain rfl := Option.some.inj H
        go_wp2
        go_ret
        exact qr
       replace c33 := Bool.eq_false_iff.mpr c33
       subst c33
       rw [if_neg qf] at H
       have HC34 := Aside0.mk H
       clear H
       go_upto_region 12 with (fail)
       go_cut [90] (fun v90 wc => ∃ (kq : Nat) (x90_33 : Bool), v90 = .bool x90_33 ∧ Aside0 (malthouseref09_Code.j3 kq l0 l1 l2 a3 x9_1 x10_1 x90_33 ((rd_T40 l0 x10_1).f0) ((rd_T40 l0 x10_1).f1) ((rd_T40 l0 x10_1).f2.f0) ((rd_T40 l0 x10_1).f2.f1) ((rd_T40 l0 x10_1).f2.f2) ((rd_T40 l0 x10_1).f2.f3) = some r) ∧ Aside0 (kq ≤ kj18) ∧ Aside0 (wc.heap[gb102]? = some (.cells #[.int .i64 ((rd_T40 l0 x10_1).f0), .string ((rd_T40 l0 x10_1).f1), .int .i64 ((rd_T40 l0 x10_1).f2.f0), .int .i64 ((rd_T40 l0 x10_1).f2.f1), .string ((rd_T40 l0 x10_1).f2.f2), (.slice A101_5 ((rd_T40 l0 x10_1).f2.f3).length c101_5)] 40 (0, 0))) ∧ Aside0 (Below w.heap.size w wc))
       case first =>
        have H := HC34.out
        clear HC34
        by_cases c35 : t103 = true
        ·subst c35
         rw [if_pos rfl] at H
         replace H := qi H
         obtain ⟨t104, A36, H⟩ := H
         have H' := Aside0.mk H
         clear H
         obtain ⟨_, _, _, _, _, _, _, _, _, _, _, _⟩ := q6 BK102.out
         go_wp2_with (first | (go_at_call 33; (with_reducible refine (malthouseref09_Place.calls kj18 _ _ l1 ((rd_T40 l0 x10_1).f1) t104 _ ?side1 ?side2 A36.out).mono ?_); (case side1 => exact qC HR1.out); (case side2 => exact HC1.out); rintro e w' ⟨rfl, ⟨nd, rfl⟩⟩))
         go_meet
         case rel => exact ⟨_, (decide (t104 < 0)), qv, H', ⟨by have := HK1.out; have := HJ8.out; have := HJ18.out; first | omega | exact Nat.le_refl _⟩, qk102, qB⟩
        replace c35 := Bool.eq_false_iff.mpr c35
        subst c35
        rw [if_neg qf] at H
        have H' := Aside0.mk H
        clear H
        go_wp2
        go_meet
        case rel => exact ⟨_, (false), qv, H', ⟨by have := HK1.out; have := HJ8.out; have := HJ18.out; first | omega | exact Nat.le_refl _⟩, qk102, qB⟩
       clear HC34
       obtain ⟨kq, x90_33, rfl, HA, HJ33, BK102, HB⟩ := hcut
       cases kq with
       | zero => exact absurd HA.out (by simp [malthouseref09_Code.j3])
       | succ kj33 =>
        have H := HA.out
        clear HA
        simp only [malthouseref09_Code.j3] at H
        by_cases c38 : x90_33 = true
        ·subst c38
         rw [if_pos rfl] at H
         obtain rfl := Option.some.inj H
         go_wp2
         go_ret
         exact qr
        replace c38 := Bool.eq_false_iff.mpr c38
        subst c38
        rw [if_neg qf] at H
        by_cases c39 : ((rd_T40 l0 x10_1).f0) = 2
        ·rw [if_pos c39] at H
         obtain ⟨c39b0, c39b1⟩ := qe c39
         clear c39
         replace H := qi H
         obtain ⟨t105, A40, H⟩ := H
         have H' := Aside0.mk H
         clear H
         obtain ⟨_, _, _, _, _, _, _, _, _, _, _, _⟩ := q6 BK102.out
         go_wp2_with (first | ((with_reducible refine gate_callee (f := 77) rfl ?_); refine goesL_ (some 96) rfl rfl Tryd.func77 (by kernel_rfl) rfl #[.agg #[.int .i64 ((rd_T40 l0 x10_1).f2.f0), .int .i64 ((rd_T40 l0 x10_1).f2.f1), .string ((rd_T40 l0 x10_1).f2.f2), .slice A101_5 ((rd_T40 l0 x10_1).f2.f3).length c101_5]] rfl qm ?_; (with_reducible refine (malthouseref02_Names.calls kj33 ((rd_T40 l0 x10_1).f2.f0) ((rd_T40 l0 x10_1).f2.f1) ((rd_T40 l0 x10_1).f2.f2) _ _ ((rd_T40 l0 x10_1).f2.f3) t105 _ ?side1 ?side2 A40.out).mono ?_); (case side1 => exact qC HR101_5.out); (case side2 => exact HC101_5.out); rintro e w42 ⟨v106, rfl, ho0, hb⟩; refine ⟨_, rfl, ?_⟩; have n0_ := Aside0.mk (Kd.V_lower (Kd.V_mono (ok' := fun k_ => k_ ≠ gb102) ho0 (fun k_ hk_ => (Kd.freshB (g := gb102) (o := .cells #[.int .i64 ((rd_T40 l0 x10_1).f0), .string ((rd_T40 l0 x10_1).f1), .int .i64 ((rd_T40 l0 x10_1).f2.f0), .int .i64 ((rd_T40 l0 x10_1).f2.f1), .string ((rd_T40 l0 x10_1).f2.f2), .slice A101_5 ((rd_T40 l0 x10_1).f2.f3).length c101_5] 40 (0, 0)) (by (with_reducible repeat (first | refine blk_drewN ?_ _ | refine blk_drew ?_ | refine blk_alloc ?_ _)); exact BK102.out) k_ hk_))) (below_size qb)); have n1_ := qn102 (g := gb102) hb; have n2_ := qs hb; clear BK102; clear HB; have HO107 := n0_; have BK102 := n1_; have HB := n2_; clear n0_ n1_ n2_; (try clear hb); (try clear ho0)))
         go_loopg [15] kj33 (fun kq v15 w' => ∃ (x15_5 : Int), v15 = .int .i64 x15_5 ∧ Aside0 (malthouseref09_Code.l1 kq l0 l1 l2 a3 x9_1 x10_1 t105 x15_5 ((rd_T40 l0 x10_1).f0) ((rd_T40 l0 x10_1).f1) ((rd_T40 l0 x10_1).f2.f0) ((rd_T40 l0 x10_1).f2.f1) ((rd_T40 l0 x10_1).f2.f2) ((rd_T40 l0 x10_1).f2.f3) = some r) ∧ Aside0 (kq ≤ kj33) ∧ Aside0 (Kd.V Kd.string 9 w' w.heap.size (fun k_ => k_ ≠ gb102) v106 t105) ∧ Aside0 (w'.heap[gb102]? = some (.cells #[.int .i64 ((rd_T40 l0 x10_1).f0), .string ((rd_T40 l0 x10_1).f1), .int .i64 ((rd_T40 l0 x10_1).f2.f0), .int .i64 ((rd_T40 l0 x10_1).f2.f1), .string ((rd_T40 l0 x10_1).f2.f2), (.slice A101_5 ((rd_T40 l0 x10_1).f2.f3).length c101_5)] 40 (0, 0))) ∧ Aside0 (Below w.heap.size w w'))
         case atStart => exact ⟨(0), qv, H', ⟨Nat.le_refl _⟩, ⟨by (with_reducible repeat (first | apply Kd.V_alloc | apply Kd.V_drewN | apply Kd.V_drew)); exact HO107.out⟩, qk102, qB⟩
         case round =>
          clear H'
          obtain ⟨x15_5, rfl, HA, HK5, HO_14, BK102, HB⟩ := hrel
          cases gk with
          | zero => exact absurd HA.out (by simp [malthouseref09_Code.l1])
          | succ k5 =>
           have H := HA.out
           clear HA
           simp only [malthouseref09_Code.l1] at H
           have HC43 := Aside0.mk H
           clear H
           go_upto_region 17 with (fail)
           go_cut [104] (fun v104 wc => ∃ (kq : Nat) (x104_42 : Bool), v104 = .bool x104_42 ∧ Aside0 (malthouseref09_Code.j5 kq l0 l1 l2 a3 x9_1 x10_1 t105 x15_5 x104_42 ((rd_T40 l0 x10_1).f0) ((rd_T40 l0 x10_1).f1) ((rd_T40 l0 x10_1).f2.f0) ((rd_T40 l0 x10_1).f2.f1) ((rd_T40 l0 x10_1).f2.f2) ((rd_T40 l0 x10_1).f2.f3) = some r) ∧ Aside0 (kq ≤ k5) ∧ Aside0 (Kd.V Kd.string 9 wc w.heap.size (fun k_ => k_ ≠ gb102) v106 t105) ∧ Aside0 (wc.heap[gb102]? = some (.cells #[.int .i64 ((rd_T40 l0 x10_1).f0), .string ((rd_T40 l0 x10_1).f1), .int .i64 ((rd_T40 l0 x10_1).f2.f0), .int .i64 ((rd_T40 l0 x10_1).f2.f1), .string ((rd_T40 l0 x10_1).f2.f2), (.slice A101_5 ((rd_T40 l0 x10_1).f2.f3).length c101_5)] 40 (0, 0))) ∧ Aside0 (Below w.heap.size w wc))
           case first =>
            have H := HC43.out
            clear HC43
            by_cases c44 : x15_5 < (t105.length : Int)
            ·rw [if_pos c44] at H
             have c44b0 : decide (x15_5 < (t105.length : Int)) = true := decide_eq_true c44
             clear c44
             (first | rw [c44b0] | (simp only [i64_w, i32_w]; rw [c44b0]) | skip)
             have H' := Aside0.mk H
             clear H
             obtain ⟨Ao45, co45, eo45⟩ := Kd.V_slice HO_14.out
             subst eo45
             go_wp2
             go_meet
             case rel => exact ⟨_, (!a3), qv, H', ⟨by have := HK1.out; have := HJ8.out; have := HJ18.out; have := HJ33.out; have := HK5.out; first | omega | exact Nat.le_refl _⟩, ⟨by (with_reducible repeat (first | apply Kd.V_alloc | apply Kd.V_drewN | apply Kd.V_drew)); exact HO_14.out⟩, qk102, qB⟩
            rw [if_neg c44] at H
            have c44b0 : decide (x15_5 < (t105.length : Int)) = false := decide_eq_false c44
            clear c44
            (first | rw [c44b0] | (simp only [i64_w, i32_w]; rw [c44b0]) | skip)
            have H' := Aside0.mk H
            clear H
            obtain ⟨Ao46, co46, eo46⟩ := Kd.V_slice HO_14.out
            subst eo46
            go_wp2
            go_meet
            case rel => exact ⟨_, (false), qv, H', ⟨by have := HK1.out; have := HJ8.out; have := HJ18.out; have := HJ33.out; have := HK5.out; first | omega | exact Nat.le_refl _⟩, ⟨by (with_reducible repeat (first | apply Kd.V_alloc | apply Kd.V_drewN | apply Kd.V_drew)); exact HO_14.out⟩, qk102, qB⟩
           clear HC43
           obtain ⟨kq, x104_42, rfl, HA, HJ42, HO_14, BK102, HB⟩ := hcut
           cases kq with
           | zero => exact absurd HA.out (by simp [malthouseref09_Code.j5])
           | succ kj42 =>
            have H := HA.out
            clear HA
            simp only [malthouseref09_Code.j5] at H
            by_cases c47 : x104_42 = true
            ·subst c47
             rw [if_pos rfl] at H
             by_cases c48 : 0 ≤ x15_5
             ·rw [if_pos c48] at H
              have c48b0 : decide (0 ≤ x15_5) = true := decide_eq_true c48
              clear c48
              by_cases c49 : x15_5 < (t105.length : Int)
              ·rw [if_pos c49] at H
               have c49b0 : decide (x15_5 < (t105.length : Int)) = true := decide_eq_true c49
               clear c49
               replace H := qi H
               obtain ⟨t109, A50, H⟩ := H
               by_cases c51 : t109 < 0
               ·rw [if_pos c51] at H
                have c51b0 : decide (t109 < 0) = true := decide_eq_true c51
                clear c51
                obtain rfl := Option.some.inj H
                obtain ⟨Ao52, co52, eo52⟩ := Kd.V_slice HO_14.out
                subst eo52
                have p108 : 0 ≤ (x15_5 : Int) := qa
                have q108 : x15_5 < (t105.length : Int) := qa
                obtain ⟨ad108, e108, hx108_0⟩ := Kd.at_string (Kd.V_reads' HO_14.out).2.2 x15_5 p108 q108
                cases e108
                replace p108 := eq_true p108
                replace q108 := eq_true q108
                go_wp2_with (first | ((with_reducible refine gate_callee (f := 33) rfl ?_); refine goesL_ (some 112) rfl rfl Tryd.func33 (by kernel_rfl) rfl #[.slice A2 l2.length c2, .string (rdOf ByteArray.empty t105 x15_5)] rfl qm ?_; (with_reducible refine (malthouseref09_Place.calls kj42 _ _ l2 (rdOf ByteArray.empty t105 x15_5) t109 _ ?side1 ?side2 A50.out).mono ?_); (case side1 => exact qC HR2.out); (case side2 => exact HC2.out); rintro e w' ⟨rfl, ⟨nd, rfl⟩⟩; refine ⟨_, rfl, ?_⟩))
                go_ret
                exact qr
               rw [if_neg c51] at H
               have c51b0 : decide (t109 < 0) = false := decide_eq_false c51
               clear c51
               have H' := Aside0.mk H
               clear H
               obtain ⟨Ao53, co53, eo53⟩ := Kd.V_slice HO_14.out
               subst eo53
               have p108 : 0 ≤ (x15_5 : Int) := qa
               have q108 : x15_5 < (t105.length : Int) := qa
               obtain ⟨ad108, e108, hx108_0⟩ := Kd.at_string (Kd.V_reads' HO_14.out).2.2 x15_5 p108 q108
               cases e108
               replace p108 := eq_true p108
               replace q108 := eq_true q108
               go_wp2_with (first | ((with_reducible refine gate_callee (f := 33) rfl ?_); refine goesL_ (some 112) rfl rfl Tryd.func33 (by kernel_rfl) rfl #[.slice A2 l2.length c2, .string (rdOf ByteArray.empty t105 x15_5)] rfl qm ?_; (with_reducible refine (malthouseref09_Place.calls kj42 _ _ l2 (rdOf ByteArray.empty t105 x15_5) t109 _ ?side1 ?side2 A50.out).mono ?_); (case side1 => exact qC HR2.out); (case side2 => exact HC2.out); rintro e w' ⟨rfl, ⟨nd, rfl⟩⟩; refine ⟨_, rfl, ?_⟩))
               go_roundg kj42
               case measure => have := HK1.out; have := HJ8.out; have := HJ18.out; have := HJ33.out; have := HK5.out; have := HJ42.out; omega
               case rel => exact ⟨(wrap64 (x15_5 + 1)), qv, H', ⟨by have := HK1.out; have := HJ8.out; have := HJ18.out; have := HJ33.out; have := HK5.out; have := HJ42.out; omega⟩, ⟨by (with_reducible repeat (first | apply Kd.V_alloc | apply Kd.V_drewN | apply Kd.V_drew)); exact HO_14.out⟩, qk102, qB⟩
              rw [if_neg c49] at H
              exact absurd H (by simp)
             rw [if_neg c48] at H
             exact absurd H (by simp)
            replace c47 := Bool.eq_false_iff.mpr c47
            subst c47
            rw [if_neg qf] at H
            replace H := qi H
            obtain ⟨t110, A54, H⟩ := H
            by_cases c55 : t110 = true
            ·subst c55
             rw [if_pos rfl] at H
             replace H := qi H
             obtain ⟨t111, A56, H⟩ := H
             by_cases c57 : x9_1 < t111
             ·rw [if_pos c57] at H
              have c57b0 : decide (x9_1 < t111) = true := decide_eq_true c57
              clear c57
              obtain rfl := Option.some.inj H
              obtain ⟨_, _, _, _, _, _, _, _, _, _, _, _⟩ := q6 BK102.out
              go_wp2_with (first | ((with_reducible refine gate_callee (f := 76) rfl ?_); refine goesL_ (some 116) rfl rfl Tryd.func76 (by kernel_rfl) rfl #[.agg #[.int .i64 ((rd_T40 l0 x10_1).f2.f0), .int .i64 ((rd_T40 l0 x10_1).f2.f1), .string ((rd_T40 l0 x10_1).f2.f2), .slice A101_5 ((rd_T40 l0 x10_1).f2.f3).length c101_5]] rfl qm ?_; (with_reducible refine (malthouseref02_May.calls kj42 ((rd_T40 l0 x10_1).f2.f0) ((rd_T40 l0 x10_1).f2.f1) ((rd_T40 l0 x10_1).f2.f2) _ _ ((rd_T40 l0 x10_1).f2.f3) true _ ?side1 ?side2 A54.out).mono ?_); (case side1 => exact qC HR101_5.out); (case side2 => exact HC101_5.out); rintro e w59 ⟨rfl, hb⟩; refine ⟨_, rfl, ?_⟩; have n0_ := Aside0.mk (Kd.V_below (by (with_reducible repeat (first | apply Kd.V_alloc | apply Kd.V_drewN | apply Kd.V_drew)); exact HO_14.out) hb); have n1_ := qn102 (g := gb102) hb; have n2_ := qs hb; clear HO_14; clear BK102; clear HB; have HO_14 := n0_; have BK102 := n1_; have HB := n2_; clear n0_ n1_ n2_; (try clear hb); obtain ⟨_, _, _, _, _, _, _, _, _, _, _, _⟩ := q6 BK102.out) | ((with_reducible refine gate_callee (f := 128) rfl ?_); refine goesL_ (some 121) rfl rfl Tryd.func128 (by kernel_rfl) rfl #[.int .i64 ((rd_T40 l0 x10_1).f0)] rfl qm ?_; (with_reducible refine (malthouseref09_needs.calls kj42 ((rd_T40 l0 x10_1).f0) t111 _ A56.out).mono ?_); rintro e w' ⟨rfl, ⟨nd, rfl⟩⟩; refine ⟨_, rfl, ?_⟩))
              go_ret
              exact qr
             rw [if_neg c57] at H
             have c57b0 : decide (x9_1 < t111) = false := decide_eq_false c57
             clear c57
             by_cases c61 : (wrap64 ((wrap64 (x9_1 - t111)) + 1)) > 8
             ·rw [if_pos c61] at H
              have c61b0 : decide (8 < (wrap64 ((wrap64 (x9_1 - t111)) + 1))) = true := decide_eq_true c61
              clear c61
              obtain rfl := Option.some.inj H
              obtain ⟨_, _, _, _, _, _, _, _, _, _, _, _⟩ := q6 BK102.out
              go_wp2_with (first | ((with_reducible refine gate_callee (f := 76) rfl ?_); refine goesL_ (some 116) rfl rfl Tryd.func76 (by kernel_rfl) rfl #[.agg #[.int .i64 ((rd_T40 l0 x10_1).f2.f0), .int .i64 ((rd_T40 l0 x10_1).f2.f1), .string ((rd_T40 l0 x10_1).f2.f2), .slice A101_5 ((rd_T40 l0 x10_1).f2.f3).length c101_5]] rfl qm ?_; (with_reducible refine (malthouseref02_May.calls kj42 ((rd_T40 l0 x10_1).f2.f0) ((rd_T40 l0 x10_1).f2.f1) ((rd_T40 l0 x10_1).f2.f2) _ _ ((rd_T40 l0 x10_1).f2.f3) true _ ?side1 ?side2 A54.out).mono ?_); (case side1 => exact qC HR101_5.out); (case side2 => exact HC101_5.out); rintro e w63 ⟨rfl, hb⟩; refine ⟨_, rfl, ?_⟩; have n0_ := Aside0.mk (Kd.V_below (by (with_reducible repeat (first | apply Kd.V_alloc | apply Kd.V_drewN | apply Kd.V_drew)); exact HO_14.out) hb); have n1_ := qn102 (g := gb102) hb; have n2_ := qs hb; clear HO_14; clear BK102; clear HB; have HO_14 := n0_; have BK102 := n1_; have HB := n2_; clear n0_ n1_ n2_; (try clear hb); obtain ⟨_, _, _, _, _, _, _, _, _, _, _, _⟩ := q6 BK102.out) | ((with_reducible refine gate_callee (f := 128) rfl ?_); refine goesL_ (some 121) rfl rfl Tryd.func128 (by kernel_rfl) rfl #[.int .i64 ((rd_T40 l0 x10_1).f0)] rfl qm ?_; (with_reducible refine (malthouseref09_needs.calls kj42 ((rd_T40 l0 x10_1).f0) t111 _ A56.out).mono ?_); rintro e w' ⟨rfl, ⟨nd, rfl⟩⟩; refine ⟨_, rfl, ?_⟩))
              go_ret
              exact qr
             rw [if_neg c61] at H
             have c61b0 : decide (8 < (wrap64 ((wrap64 (x9_1 - t111)) + 1))) = false := decide_eq_false c61
             clear c61
             have H' := Aside0.mk H
             clear H
             obtain ⟨_, _, _, _, _, _, _, _, _, _, _, _⟩ := q6 BK102.out
             go_wp2_with (first | ((with_reducible refine gate_callee (f := 76) rfl ?_); refine goesL_ (some 116) rfl rfl Tryd.func76 (by kernel_rfl) rfl #[.agg #[.int .i64 ((rd_T40 l0 x10_1).f2.f0), .int .i64 ((rd_T40 l0 x10_1).f2.f1), .string ((rd_T40 l0 x10_1).f2.f2), .slice A101_5 ((rd_T40 l0 x10_1).f2.f3).length c101_5]] rfl qm ?_; (with_reducible refine (malthouseref02_May.calls kj42 ((rd_T40 l0 x10_1).f2.f0) ((rd_T40 l0 x10_1).f2.f1) ((rd_T40 l0 x10_1).f2.f2) _ _ ((rd_T40 l0 x10_1).f2.f3) true _ ?side1 ?side2 A54.out).mono ?_); (case side1 => exact qC HR101_5.out); (case side2 => exact HC101_5.out); rintro e w66 ⟨rfl, hb⟩; refine ⟨_, rfl, ?_⟩; have n0_ := Aside0.mk (Kd.V_below (by (with_reducible repeat (first | apply Kd.V_alloc | apply Kd.V_drewN | apply Kd.V_drew)); exact HO_14.out) hb); have n1_ := qn102 (g := gb102) hb; have n2_ := qs hb; clear HO_14; clear BK102; clear HB; have HO_14 := n0_; have BK102 := n1_; have HB := n2_; clear n0_ n1_ n2_; (try clear hb); obtain ⟨_, _, _, _, _, _, _, _, _, _, _, _⟩ := q6 BK102.out) | ((with_reducible refine gate_callee (f := 128) rfl ?_); refine goesL_ (some 121) rfl rfl Tryd.func128 (by kernel_rfl) rfl #[.int .i64 ((rd_T40 l0 x10_1).f0)] rfl qm ?_; (with_reducible refine (malthouseref09_needs.calls kj42 ((rd_T40 l0 x10_1).f0) t111 _ A56.out).mono ?_); rintro e w' ⟨rfl, ⟨nd, rfl⟩⟩; refine ⟨_, rfl, ?_⟩))
             go_roundg kj42
             case measure => have := HK1.out; have := HJ8.out; have := HJ18.out; have := HJ33.out; have := HK5.out; have := HJ42.out; omega
             case rel => exact ⟨(wrap64 ((wrap64 (x9_1 - t111)) + 1)), (wrap64 (x10_1 + 1)), qv, qv, H', ⟨by have := HK1.out; have := HJ8.out; have := HJ18.out; have := HJ33.out; have := HK5.out; have := HJ42.out; omega⟩, qB⟩
            replace c55 := Bool.eq_false_iff.mpr c55
            subst c55
            rw [if_neg qf] at H
            obtain rfl := Option.some.inj H
            obtain ⟨_, _, _, _, _, _, _, _, _, _, _, _⟩ := q6 BK102.out
            go_wp2_with (first | ((with_reducible refine gate_callee (f := 76) rfl ?_); refine goesL_ (some 116) rfl rfl Tryd.func76 (by kernel_rfl) rfl #[.agg #[.int .i64 ((rd_T40 l0 x10_1).f2.f0), .int .i64 ((rd_T40 l0 x10_1).f2.f1), .string ((rd_T40 l0 x10_1).f2.f2), .slice A101_5 ((rd_T40 l0 x10_1).f2.f3).length c101_5]] rfl qm ?_; (with_reducible refine (malthouseref02_May.calls kj42 ((rd_T40 l0 x10_1).f2.f0) ((rd_T40 l0 x10_1).f2.f1) ((rd_T40 l0 x10_1).f2.f2) _ _ ((rd_T40 l0 x10_1).f2.f3) false _ ?side1 ?side2 A54.out).mono ?_); (case side1 => exact qC HR101_5.out); (case side2 => exact HC101_5.out); rintro e w69 ⟨rfl, hb⟩; refine ⟨_, rfl, ?_⟩; have n0_ := Aside0.mk (Kd.V_below (by (with_reducible repeat (first | apply Kd.V_alloc | apply Kd.V_drewN | apply Kd.V_drew)); exact HO_14.out) hb); have n1_ := qn102 (g := gb102) hb; have n2_ := qs hb; clear HO_14; clear BK102; clear HB; have HO_14 := n0_; have BK102 := n1_; have HB := n2_; clear n0_ n1_ n2_; (try clear hb)))
            go_ret
            exact qr
        rw [if_neg c39] at H
        obtain ⟨c39b0, c39b1⟩ := qd c39
        replace H := qi H
        obtain ⟨t112, A70, H⟩ := H
        by_cases c71 : x9_1 < t112
        ·rw [if_pos c71] at H
         have c71b0 : decide (x9_1 < t112) = true := decide_eq_true c71
         clear c71
         obtain rfl := Option.some.inj H
         obtain ⟨_, _, _, _, _, _, _, _, _, _, _, _⟩ := q6 BK102.out
         go_wp2_with (first | ((with_reducible refine gate_callee (f := 128) rfl ?_); refine goesL_ (some 121) rfl rfl Tryd.func128 (by kernel_rfl) rfl #[.int .i64 ((rd_T40 l0 x10_1).f0)] rfl qm ?_; (with_reducible refine (malthouseref09_needs.calls kj33 ((rd_T40 l0 x10_1).f0) t112 _ A70.out).mono ?_); rintro e w' ⟨rfl, ⟨nd, rfl⟩⟩; refine ⟨_, rfl, ?_⟩))
         go_ret
         exact qr
        rw [if_neg c71] at H
        have c71b0 : decide (x9_1 < t112) = false := decide_eq_false c71
        clear c71
        by_cases c73 : (wrap64 ((wrap64 (x9_1 - t112)) + 1)) > 8
        ·rw [if_pos c73] at H
         have c73b0 : decide (8 < (wrap64 ((wrap64 (x9_1 - t112)) + 1))) = true := decide_eq_true c73
         clear c73
         obtain rfl := Option.some.inj H
         obtain ⟨_, _, _, _, _, _, _, _, _, _, _, _⟩ := q6 BK102.out
         go_wp2_with (first | ((with_reducible refine gate_callee (f := 128) rfl ?_); refine goesL_ (some 121) rfl rfl Tryd.func128 (by kernel_rfl) rfl #[.int .i64 ((rd_T40 l0 x10_1).f0)] rfl qm ?_; (with_reducible refine (malthouseref09_needs.calls kj33 ((rd_T40 l0 x10_1).f0) t112 _ A70.out).mono ?_); rintro e w' ⟨rfl, ⟨nd, rfl⟩⟩; refine ⟨_, rfl, ?_⟩))
         go_ret
         exact qr
        rw [if_neg c73] at H
        have c73b0 : decide (8 < (wrap64 ((wrap64 (x9_1 - t112)) + 1))) = false := decide_eq_false c73
        clear c73
        have H' := Aside0.mk H
        clear H
        obtain ⟨_, _, _, _, _, _, _, _, _, _, _, _⟩ := q6 BK102.out
        go_wp2_with (first | ((with_reducible refine gate_callee (f := 128) rfl ?_); refine goesL_ (some 121) rfl rfl Tryd.func128 (by kernel_rfl) rfl #[.int .i64 ((rd_T40 l0 x10_1).f0)] rfl qm ?_; (with_reducible refine (malthouseref09_needs.calls kj33 ((rd_T40 l0 x10_1).f0) t112 _ A70.out).mono ?_); rintro e w' ⟨rfl, ⟨nd, rfl⟩⟩; refine ⟨_, rfl, ?_⟩))
        go_roundg kj33
        case measure => have := HK1.out; have := HJ8.out; have := HJ18.out; have := HJ33.out; omega
        case rel => exact ⟨(wrap64 ((wrap64 (x9_1 - t112)) + 1)), (wrap64 (x10_1 + 1)), qv, qv, H', ⟨by have := HK1.out; have := HJ8.out; have := HJ18.out; have := HJ33.out; omega⟩, qB⟩
    rw [if_neg c7] at H
    exact absurd H (by simp)
   rw [if_neg c6] at H
   have c6b0 : decide (x10_1 < (l0.length : Int)) = false := decide_eq_false c6
   clear c6
   by_cases c76 : x9_1 = 1
   ·rw [if_pos c76] at H
    obtain ⟨c76b0, c76b1⟩ := qe c76
    clear c76
    obtain rfl := Option.some.inj H
    go_wp2
    go_ret
    exact qr
   rw [if_neg c76] at H
   obtain ⟨c76b0, c76b1⟩ := qd c76
   obtain rfl := Option.some.inj H
   go_wp2
   go_ret
   exact qr
end Go.Proofs.YtiaccdaeomaogaaDoor.F
