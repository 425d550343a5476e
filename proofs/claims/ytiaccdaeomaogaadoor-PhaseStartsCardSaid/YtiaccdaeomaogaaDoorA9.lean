/- Texts of one claim, slimmed and merged by slim.py. -/
import Derived.Shelf.Bits.Mul64
import Derived.Test.YtiaccdaeomaogaaDoorProg
import Derived.Test.YtiaccdaeomaogaaDoorA4
import Derived.Test.YtiaccdaeomaogaaDoorA6
import Derived.Test.YtiaccdaeomaogaaDoorA8
namespace Go.Proofs.YtiaccdaeomaogaaDoor.F
open Go.RowKit Go.Proofs.YtiaccdaeomaogaaDoorW.PrintWords Go.Proofs.YtiaccdaeomaogaaDoorW.PrintLast Go.Proofs.YtiaccdaeomaogaaDoorW.PrintMore
attribute [local go_sem] max2_int min2_int max_two min_two max_three min_three max_four min_four   -- for this text's walks alone
set_option linter.unusedVariables false
set_option linter.unusedSimpArgs false
def expr_May.f (k : Nat) (a0_0 : Int) (a0_1 : Int) (a0_2 : ByteArray) (l0_3 : List (S34)) : Option (Bool) := (expr_tokens.f k a0_0 a0_1 a0_2 l0_3 64).bind fun t102 => (if t102 > 0 then (some (decide (t102 ≤ 64))) else (some false))
theorem expr_May.mono : ∀ a0 a1 a2 a3 k, LeO (expr_May.f k a0 a1 a2 a3) (expr_May.f (k + 1) a0 a1 a2 a3) := by
  intro a0 a1 a2 a3 k
  unfold expr_May.f
  repeat' first
      | (with_reducible exact expr_tokens.mono _ _ _ _ _ _)
      | (with_reducible exact LeO.refl _)
      | (with_reducible exact LeO.none _)
      | (with_reducible refine LeO.ite ?_ ?_)
      | (with_reducible refine LeO.bind ?_ (fun _ => ?_))
      | exact expr_tokens.mono _ _ _ _ _ _
      | exact LeO.none _
      | refine LeO.ite ?_ ?_
      | refine LeO.bind ?_ (fun _ => ?_)
set_option maxHeartbeats 8000000 in
set_option maxRecDepth 100000 in
theorem expr_May.calls (k : Nat) (a0_0 : Int) (a0_1 : Int) (a0_2 : ByteArray) (A0_3 : Option Addr) (c0_3 : Nat) (l0_3 : List (S34)) (r : Bool) (w : World) (hr0_3 : Kd.C k34 w A0_3 l0_3.length l0_3) (hc0_3 : l0_3.length ≤ c0_3) (h : expr_May.f k a0_0 a0_1 a0_2 l0_3 = some r) (hT : UT w) :
  Calls Tryd.prog 29 #[.agg #[.int .i64 a0_0, .int .i64 a0_1, .string a0_2, .slice A0_3 l0_3.length c0_3]] w fun e w' => e = .returned (.bool r) ∧ Below w.heap.size w w' := by
 have HT0 := Aside0.mk hT
 clear hT
 have hu34 := Tryd.underlying34
 have HR0_3 := Aside0.mk hr0_3
 have HC0_3 := Aside0.mk hc0_3
 clear hr0_3 hc0_3
 have HB := Aside0.mk (Below.refl w.heap.size w)
 have H : ((expr_tokens.f k a0_0 a0_1 a0_2 l0_3 64).bind fun t102 => (if t102 > 0 then (some (decide (t102 ≤ 64))) else (some false))) = some r := h
 clear h
 replace H := qi H
 obtain ⟨t102, A2, H⟩ := H
 by_cases c3 : t102 > 0
 ·rw [if_pos c3] at H
  have c3b0 : decide (0 < t102) = true := decide_eq_true c3
  clear c3
  obtain rfl := Option.some.inj H
  go_enter Tryd.func29, Tryd.ntmps29
  go_wp2_with (first | ((with_reducible refine gate_dst (N := 1) rfl ?_); refine box_event ?hg (N := 1) ?hd (cs := #[.int .i64 a0_0, .int .i64 a0_1, .string a0_2, .slice A0_3 l0_3.length c0_3]) (t := 34) ?hr ?_; (case hd => rfl); (case hg => rfl); (case hr => first | (go_simp; done) | (go_simp; rfl)); intro gb101 hg w4 hbox hb; have n0_ := qs hb; have n1_ := Aside0.mk (hbox); have n2_ := Aside0.mk ((by rw [hg]; exact (below_size qb) : w.heap.size ≤ gb101)); have n3_ := Aside0.mk ((by rw [hg]; exact (below_size qb) : w.heap.size ≤ gb101)); clear HB; have HB := n0_; have BK101 := n1_; have GW101 := n2_; have GE101 := n3_; clear n0_ n1_ n2_ n3_; clear hb hbox hg; obtain ⟨_, _, _, _, _, _, _, _⟩ := q4 BK101.out) | ((with_reducible refine gate_callee (f := 63) rfl ?_); refine goesL_ (some 5) rfl rfl Tryd.func63 (by kernel_rfl) rfl #[.agg #[.int .i64 a0_0, .int .i64 a0_1, .string a0_2, .slice A0_3 l0_3.length c0_3], .int .i64 64] rfl qm ?_; (with_reducible refine (expr_tokens.calls k a0_0 a0_1 a0_2 _ _ l0_3 64 t102 _ ?side1 ?side2 A2.out (by first | exact HT0.out | exact UT.below HT0.out qb)).mono ?_); (case side1 => exact qC HR0_3.out); (case side2 => exact HC0_3.out); rintro e w6 ⟨rfl, hb⟩; refine ⟨_, rfl, ?_⟩; have n0_ := qn101 (g := gb101) hb; have n1_ := qs hb; clear BK101; clear HB; have BK101 := n0_; have HB := n1_; clear n0_ n1_; (try clear hb)))
  go_ret
  exact qr
 rw [if_neg c3] at H
 have c3b0 : decide (0 < t102) = false := decide_eq_false c3
 clear c3
 obtain rfl := Option.some.inj H
 go_enter Tryd.func29, Tryd.ntmps29
 go_wp2_with (first | ((with_reducible refine gate_dst (N := 1) rfl ?_); refine box_event ?hg (N := 1) ?hd (cs := #[.int .i64 a0_0, .int .i64 a0_1, .string a0_2, .slice A0_3 l0_3.length c0_3]) (t := 34) ?hr ?_; (case hd => rfl); (case hg => rfl); (case hr => first | (go_simp; done) | (go_simp; rfl)); intro gb101 hg w7 hbox hb; have n0_ := qs hb; have n1_ := Aside0.mk (hbox); have n2_ := Aside0.mk ((by rw [hg]; exact (below_size qb) : w.heap.size ≤ gb101)); have n3_ := Aside0.mk ((by rw [hg]; exact (below_size qb) : w.heap.size ≤ gb101)); clear HB; have HB := n0_; have BK101 := n1_; have GW101 := n2_; have GE101 := n3_; clear n0_ n1_ n2_ n3_; clear hb hbox hg; obtain ⟨_, _, _, _, _, _, _, _⟩ := q4 BK101.out) | ((with_reducible refine gate_callee (f := 63) rfl ?_); refine goesL_ (some 5) rfl rfl Tryd.func63 (by kernel_rfl) rfl #[.agg #[.int .i64 a0_0, .int .i64 a0_1, .string a0_2, .slice A0_3 l0_3.length c0_3], .int .i64 64] rfl qm ?_; (with_reducible refine (expr_tokens.calls k a0_0 a0_1 a0_2 _ _ l0_3 64 t102 _ ?side1 ?side2 A2.out (by first | exact HT0.out | exact UT.below HT0.out qb)).mono ?_); (case side1 => exact qC HR0_3.out); (case side2 => exact HC0_3.out); rintro e w9 ⟨rfl, hb⟩; refine ⟨_, rfl, ?_⟩; have n0_ := qn101 (g := gb101) hb; have n1_ := qs hb; clear BK101; clear HB; have BK101 := n0_; have HB := n1_; clear n0_ n1_; (try clear hb)))
 go_ret
 exact qr
def cellB (nm : ByteArray) (c : S69) : Bool := c.f0.toList == nm.toList
def idxC (nm : ByteArray) (l : List S69) : Int := match l.findIdx? (cellB nm) with
  | some i => (i : Int)
  | none => -1
theorem rd_getC (l : List S69) (j : Nat) (hj : j < l.length) : rd_T69 l (j : Int) = l[j] := by simp [rd_T69, hj]
theorem idxC_at {nm : ByteArray} {l : List S69} {i : Int} (h0 : 0 ≤ i) (hi : i < (l.length : Int)) (hp : cellB nm (rd_T69 l i) = true) (hn : ∀ j : Int, 0 ≤ j → j < i → cellB nm (rd_T69 l j) = false) : idxC nm l = i := by
  obtain ⟨n, rfl⟩ := Int.eq_ofNat_of_zero_le h0
  have hi' : n < l.length := by omega
  unfold idxC
  have : l.findIdx? (cellB nm) = some n := by
    rw [List.findIdx?_eq_some_iff_getElem]
    refine ⟨hi', by rw [← rd_getC l n hi']; exact hp, fun j hj => ?_⟩
    rw [← rd_getC l j (by omega), hn j (by omega) (by omega)]; decide
  rw [this]
theorem idxC_none {nm : ByteArray} {l : List S69} (hn : ∀ j : Int, 0 ≤ j → j < (l.length : Int) → cellB nm (rd_T69 l j) = false) : idxC nm l = -1 := by
  unfold idxC
  have : l.findIdx? (cellB nm) = none := by
    rw [List.findIdx?_eq_none_iff]
    intro x hx
    obtain ⟨j, hj, rfl⟩ := List.mem_iff_getElem.mp hx
    rw [← rd_getC l j hj]
    exact hn j (by omega) (by omega)
  rw [this]
theorem idxC_lt (nm : ByteArray) (l : List S69) : idxC nm l = -1 ∨ (0 ≤ idxC nm l ∧ idxC nm l < (l.length : Int)) := by
  unfold idxC
  cases h : l.findIdx? (cellB nm) with
  | none => exact .inl rfl
  | some i =>
    rw [List.findIdx?_eq_some_iff_getElem] at h
    obtain ⟨hi, _⟩ := h
    exact .inr ⟨by simp, by simp; omega⟩
theorem ret_intC {k : IntKind} {a b : Int} (h : a = b) : Ending.returned (.int k a) = .returned (.int k b) := by rw [h]
def expr_cell.f (l0 : List (S69)) (a1 : ByteArray) : Option (Int × Bool) := some (if idxC a1 l0 < 0 then (0, false) else ((rd_T69 l0 (idxC a1 l0)).f1, true))
set_option maxHeartbeats 4000000 in
set_option maxRecDepth 100000 in
theorem cell_lit (s nm : ByteArray) (n : Int) (g : Nat) (w : World) (hb : w.heap[g]? = some (.cells #[.string nm] 9 (0, 0))) :
    Calls Tryd.prog 131 #[.agg #[.string s, .int .i64 n], .pointer (some ⟨g, 0, none⟩)] w fun e w' => e = .returned (.bool (s.toList == nm.toList)) ∧ Below w.heap.size w w' := by
  have hu69 := Tryd.underlying69
  have HB := Aside0.mk hb
  clear hb
  go_enter Tryd.func131, Tryd.ntmps131
  go_wp2_with (first | ((with_reducible refine gate_dst (N := 2) rfl ?_); refine box_event ?hg (N := 2) ?hd (cs := #[.string s, .int .i64 n]) (t := 69) ?hr ?_; (case hd => rfl); (case hg => rfl); (case hr => first | (go_simp; done) | (go_simp; rfl)); intro gb hg w4 hbox hb; have HB4 := Aside0.mk hb; have hb2 := blk_below HB.out hb; clear hb hg; have hcz0 : w4.cell? ⟨gb, 0, none⟩ = some (.string s) := (blk_cell hbox 0).trans rfl; have hcy0 : w4.cell? ⟨g, 0, none⟩ = some (.string nm) := (blk_cell hb2 0).trans rfl; clear hbox hb2))
  go_ret
  exact ⟨rfl, by first | exact HB4.out | exact pw_below_drewN HB4.out _⟩
set_option maxHeartbeats 4000000 in
set_option maxRecDepth 100000 in
theorem IndexFunc_cell (A0 : Option Addr) (c0 : Nat) (l0 : List S69) (nm : ByteArray) (g : Nat) (w : World) (hr0 : Kd.C k69 w A0 l0.length l0) (hc0 : l0.length ≤ c0) (hb : w.heap[g]? = some (.cells #[.string nm] 9 (0, 0))) :
    Calls Tryd.prog 130 #[.slice A0 l0.length c0, .func (.func 131) #[] #[.pointer (some ⟨g, 0, none⟩)]] w fun e w' => e = .returned (.int .i64 (idxC nm l0)) ∧ Below w.heap.size w w' := by
  have hu69 := Tryd.underlying69
  have HR0 := Aside0.mk hr0
  have HC0 := Aside0.mk hc0
  have HBK := Aside0.mk hb
  have HM := Aside0.mk hr0.2.1
  clear hr0 hc0 hb
  go_enter Tryd.func130, Tryd.ntmps130
  go_wp2
  go_loopg [8] (l0.length) (fun kq v8 w' => ∃ x8 : Int, v8 = .int .i64 x8 ∧ Aside0 (0 ≤ x8 ∧ x8 ≤ (l0.length : Int) ∧ (kq : Int) = l0.length - x8 ∧ ∀ j : Int, 0 ≤ j → j < x8 → cellB nm (rd_T69 l0 j) = false) ∧ Aside0 (Below w.heap.size w w'))
  case atStart => exact ⟨0, rfl, ⟨by omega, by omega, by omega, fun j h1 h2 => by omega⟩, ⟨by first | exact Below.refl _ _ | exact pw_below_drewN (Below.refl _ _) _⟩⟩
  case round =>
    obtain ⟨x8, rfl, HI, HB⟩ := hrel
    by_cases hlt : x8 < (l0.length : Int)
    · have c3b0 : decide (x8 < (l0.length : Int)) = true := decide_eq_true hlt
      have p155 := HI.out.1
      have q155 := hlt
      obtain ⟨ad, e1, y0, y1⟩ := at_T69 (Kd.C_below HR0.out HB.out) x8 p155 q155
      cases e1
      have c4b0 : decide (0 ≤ x8) = true := decide_eq_true p155
      replace p155 := eq_true p155
      replace q155 := eq_true q155
      have HLT := Aside0.mk hlt
      have HY := Aside0.mk (fun (h : cellB nm (rd_T69 l0 x8) = true) => idxC_at HI.out.1 hlt h HI.out.2.2.2)
      have HI' : Aside0 (cellB nm (rd_T69 l0 x8) = false → ∀ j : Int, 0 ≤ j → j < x8 + 1 → cellB nm (rd_T69 l0 j) = false) := ⟨fun hf j h1 h2 => by
        rcases Int.lt_or_eq_of_le (show j ≤ x8 by omega) with h | rfl
        · exact HI.out.2.2.2 j h1 h
        exact hf⟩
      have HI2 : Aside0 (0 ≤ x8 ∧ x8 < (l0.length : Int) ∧ (gk : Int) = l0.length - x8) := ⟨HI.out.1, hlt, HI.out.2.2.1⟩
      clear hlt HI
      generalize rd_T69 l0 x8 = y at *
      have HX := Aside0.mk (cell_lit y.f0 nm y.f1 g wr (blk_below HBK.out HB.out))
      cases hb : (y.f0.toList == nm.toList) with
      | true =>
        rw [hb] at HX
        have HBB := Aside0.mk hb
        clear hb
        go_wp2_with (first | (go_at_call 131; refine HX.out.mono ?_; rintro e w' ⟨rfl, hb⟩; have HB2 := Aside0.mk (below_step HB.out hb); clear hb))
        go_ret
        exact ⟨ret_intC (HY.out HBB.out).symm, HB2.out⟩
      | false =>
        rw [hb] at HX
        have HBB := Aside0.mk hb
        clear hb
        go_wp2_with (first | (go_at_call 131; refine HX.out.mono ?_; rintro e w' ⟨rfl, hb⟩; have HB2 := Aside0.mk (below_step HB.out hb); clear hb))
        go_roundg (l0.length - (x8 + 1)).toNat
        case measure => have := HI2.out; omega
        case rel => exact ⟨x8 + 1, by rw [show wrap64 (x8 + 1) = x8 + 1 from by have := HI2.out; have := HM.out; unfold wrap64; omega], ⟨by have := HI2.out; omega, by have := HI2.out; omega, by have := HI2.out; omega, HI'.out HBB.out⟩, HB2⟩
    have c3b0 : decide (x8 < (l0.length : Int)) = false := decide_eq_false hlt
    have HLT := Aside0.mk hlt
    clear hlt
    go_wp2
    go_ret
    exact ⟨ret_intC (idxC_none (fun j h1 h2 => HI.out.2.2.2 j h1 (by have := HLT.out; omega))).symm, HB.out⟩
set_option maxHeartbeats 4000000 in
set_option maxRecDepth 100000 in
theorem expr_cell.calls (A0 : Option Addr) (c0 : Nat) (l0 : List (S69)) (a1 : ByteArray) (r1 : Int) (r2 : Bool) (w : World) (hr0 : Kd.C k69 w A0 l0.length l0) (hc0 : l0.length ≤ c0) (h : expr_cell.f l0 a1 = some (r1, r2)) :
  Calls Tryd.prog 97 #[.slice A0 l0.length c0, .string a1] w fun e w' => e = .returned (.tuple #[.int .i64 r1, .bool r2]) ∧ Below w.heap.size w w' := by
 have HR0 := Aside0.mk hr0
 have HC0 := Aside0.mk hc0
 clear hr0 hc0
 unfold expr_cell.f at h
 have hlt := idxC_lt a1 l0
 obtain ⟨q, hq⟩ : ∃ q, idxC a1 l0 = q := ⟨_, rfl⟩
 have HQ := Aside0.mk hq
 rw [hq] at h hlt
 clear hq
 rcases hlt with rfl | ⟨h0, h1⟩
 ·simp at h
  obtain ⟨rfl, rfl⟩ := h
  go_enter Tryd.func97, Tryd.ntmps97
  go_wp2_with (first | ((with_reducible refine gate_dst (N := 3) rfl ?_); refine box_event ?hg (N := 3) ?hd (cs := #[.string a1]) (t := 9) ?hr ?_; (case hd => rfl); (case hg => rfl); (case hr => first | (go_simp; done) | (go_simp; rfl)); intro gb hg w4 hbox hb; have HB4 := Aside0.mk hb; have HX := Aside0.mk (IndexFunc_cell A0 c0 l0 a1 gb w4 (Kd.C_below HR0.out hb) HC0.out hbox); rw [HQ.out] at HX; clear hb hg hbox) | (go_at_call 130; refine HX.out.mono ?_; rintro e w5 ⟨rfl, hb⟩; have HB5 := Aside0.mk (below_step HB4.out hb); clear hb))
  go_ret2
  exact ⟨rfl, HB5.out⟩
 rw [if_neg (by omega)] at h
 have p1 := h0
 have q1 := h1
 obtain ⟨ad, e1, y0, y1⟩ := at_T69 HR0.out q p1 q1
 cases e1
 simp at h
 obtain ⟨rfl, rfl⟩ := h
 have HY0 := Aside0.mk y0
 have HY1 := Aside0.mk y1
 have d0 : decide (q < 0) = false := decide_eq_false (by omega)
 have d1 : decide (0 ≤ q) = true := decide_eq_true h0
 have d2 : decide (q < (l0.length : Int)) = true := decide_eq_true h1
 replace p1 := eq_true p1
 replace q1 := eq_true q1
 generalize rd_T69 l0 q = y at *
 clear h0 h1 y0 y1
 go_enter Tryd.func97, Tryd.ntmps97
 go_wp2_with (first | ((with_reducible refine gate_dst (N := 3) rfl ?_); refine box_event ?hg (N := 3) ?hd (cs := #[.string a1]) (t := 9) ?hr ?_; (case hd => rfl); (case hg => rfl); (case hr => first | (go_simp; done) | (go_simp; rfl)); intro gb hg w4 hbox hb; have HB4 := Aside0.mk hb; have HX := Aside0.mk (IndexFunc_cell (some ad) c0 l0 a1 gb w4 (Kd.C_below HR0.out hb) HC0.out hbox); rw [HQ.out] at HX; clear hb hg hbox) | (go_at_call 130; refine HX.out.mono ?_; rintro e w5 ⟨rfl, hb⟩; have HB5 := Aside0.mk (below_step HB4.out hb); have y0 := pw_cell_below HB5.out HY0.out; have y1 := pw_cell_below HB5.out HY1.out; clear hb))
 go_ret2
 exact ⟨rfl, HB5.out⟩
def expr_minus.f (a0 : Int) (a1 : Int) : Option (Int × Int) := if ((decide ((wrap64 (a0 - a1)) > a0)) != (decide (a1 < 0))) = true then (some (0, 22)) else (some (wrap64 (a0 - a1), 0))
set_option maxHeartbeats 8000000 in
set_option maxRecDepth 100000 in
theorem expr_minus.calls (a0 : Int) (a1 : Int) (r1 : Int) (r2 : Int) (w : World) (h : expr_minus.f a0 a1 = some (r1, r2)) :
  Calls Tryd.prog 98 #[.int .i64 a0, .int .i64 a1] w fun e w' => e = .returned (.tuple #[.int .i64 r1, .int .i64 r2]) ∧ Drawn0 w w' := by
 have H : (if ((decide ((wrap64 (a0 - a1)) > a0)) != (decide (a1 < 0))) = true then (some (0, 22)) else (some (wrap64 (a0 - a1), 0))) = some (r1, r2) := h
 clear h
 by_cases c3 : ((decide ((wrap64 (a0 - a1)) > a0)) != (decide (a1 < 0))) = true
 ·rw [if_pos c3] at H
  have c3b0 : ((decide ((wrap64 (a0 - a1)) > a0)) != (decide (a1 < 0))) = true := c3
  (try (have c3b1 : decide ((decide ((wrap64 (a0 - a1)) > a0)) = (decide (a1 < 0))) = false := by simpa using c3))
  (try (have c3b2 : ((decide ((wrap64 (a0 - a1)) > a0)) == (decide (a1 < 0))) = false := by simpa using c3))
  (try (have c3b3 : ¬ ((decide ((wrap64 (a0 - a1)) > a0)) = (decide (a1 < 0))) := by simpa using c3))
  clear c3
  simp only [Option.some.injEq, Prod.mk.injEq] at H
  obtain ⟨rfl, rfl⟩ := H
  go_enter Tryd.func98, Tryd.ntmps98
  go_wp2
  go_ret2
  exact ⟨by first | rfl | (simp; done) | (simp [*]; done), by repeat (first | exact Drawn0.refl _ | apply Drawn0.step)⟩
 rw [if_neg c3] at H
 have c3b0 : ((decide ((wrap64 (a0 - a1)) > a0)) != (decide (a1 < 0))) = false := by simpa using c3
 (try (have c3b1 : decide ((decide ((wrap64 (a0 - a1)) > a0)) = (decide (a1 < 0))) = true := by simpa using c3))
 (try (have c3b2 : ((decide ((wrap64 (a0 - a1)) > a0)) == (decide (a1 < 0))) = true := by simpa using c3))
 clear c3
 simp only [Option.some.injEq, Prod.mk.injEq] at H
 obtain ⟨rfl, rfl⟩ := H
 go_enter Tryd.func98, Tryd.ntmps98
 go_wp2
 go_ret2
 exact ⟨by first | rfl | (simp; done) | (simp [*]; done), by repeat (first | exact Drawn0.refl _ | apply Drawn0.step)⟩
def expr_truth.f (a0 : Bool) : Option (Int) := if a0 = true then (some 1) else (some 0)
set_option maxHeartbeats 8000000 in
set_option maxRecDepth 100000 in
theorem expr_truth.calls (a0 : Bool) (r : Int) (w : World) (h : expr_truth.f a0 = some r) :
  Calls Tryd.prog 99 #[.bool a0] w fun e w' => e = .returned (.int .i64 r) ∧ Drawn0 w w' := by
 have H : (if a0 = true then (some 1) else (some 0)) = some r := h
 clear h
 by_cases c2 : a0 = true
 ·subst c2
  rw [if_pos rfl] at H
  obtain rfl := Option.some.inj H
  go_enter Tryd.func99, Tryd.ntmps99
  go_wp2
  go_ret
  exact ⟨by first | rfl | (simp; done) | (simp [*]; done), by repeat (first | exact Drawn0.refl _ | apply Drawn0.step)⟩
 replace c2 := Bool.eq_false_iff.mpr c2
 subst c2
 rw [if_neg qf] at H
 obtain rfl := Option.some.inj H
 go_enter Tryd.func99, Tryd.ntmps99
 go_wp2
 go_ret
 exact ⟨by first | rfl | (simp; done) | (simp [*]; done), by repeat (first | exact Drawn0.refl _ | apply Drawn0.step)⟩
def expr_divide.j0 : Nat → Int → Int → Int → Bool → Option (Int × Int)
  | 0, _, _, _, _ => none
  | k + 1, x0, x1, x2, x11 => if x11 = true then (some (0, 0)) else (if x0 = 8 then (if x2 = 0 then (none) else (some (Int.tmod x1 x2, 0))) else (if x2 = (-1) then ((expr_minus.f 0 x1).bind fun bt101 => (some (bt101.1, bt101.2))) else (if x2 = 0 then (none) else (some (wrap64 (Int.tdiv x1 x2), 0)))))
def expr_divide.f (k : Nat) (a0 : Int) (a1 : Int) (a2 : Int) : Option (Int × Int) := if a2 = 0 then (some (0, 23)) else (if a0 = 8 then (expr_divide.j0 k a0 a1 a2 (a2 == (-1))) else (expr_divide.j0 k a0 a1 a2 false))
theorem expr_divide.mono_l : ∀ k, (∀ y0 y1 y2 y3, LeO (expr_divide.j0 k y0 y1 y2 y3) (expr_divide.j0 (k + 1) y0 y1 y2 y3))
  | 0 => fun _ _ _ _ r h => by simp [expr_divide.j0] at h
  | k + 1 => by
    have ih0 := expr_divide.mono_l k
    intro y0 y1 y2 y3
    unfold expr_divide.j0
    repeat' first
    | (with_reducible exact ih0 _ _ _ _)
    | (with_reducible exact LeO.refl _)
    | (with_reducible exact LeO.none _)
    | (with_reducible refine LeO.ite ?_ ?_)
    | (with_reducible refine LeO.bind ?_ (fun _ => ?_))
    | exact ih0 _ _ _ _
    | exact LeO.none _
    | refine LeO.ite ?_ ?_
    | refine LeO.bind ?_ (fun _ => ?_)
theorem expr_divide.mono : ∀ a0 a1 a2 k, LeO (expr_divide.f k a0 a1 a2) (expr_divide.f (k + 1) a0 a1 a2) := by
  intro a0 a1 a2 k
  have ih0 := expr_divide.mono_l k
  unfold expr_divide.f
  repeat' first
      | (with_reducible exact ih0 _ _ _ _)
      | (with_reducible exact LeO.refl _)
      | (with_reducible exact LeO.none _)
      | (with_reducible refine LeO.ite ?_ ?_)
      | (with_reducible refine LeO.bind ?_ (fun _ => ?_))
      | exact ih0 _ _ _ _
      | exact LeO.none _
      | refine LeO.ite ?_ ?_
      | refine LeO.bind ?_ (fun _ => ?_)
set_option maxHeartbeats 8000000 in
set_option maxRecDepth 100000 in
theorem expr_divide.calls (k : Nat) (a0 : Int) (a1 : Int) (a2 : Int) (r1 : Int) (r2 : Int) (w : World) (h : expr_divide.f k a0 a1 a2 = some (r1, r2)) :
  Calls Tryd.prog 134 #[.int .i64 a0, .int .i64 a1, .int .i64 a2] w fun e w' => e = .returned (.tuple #[.int .i64 r1, .int .i64 r2]) ∧ Drawn0 w w' := by
 have H : (if a2 = 0 then (some (0, 23)) else (if a0 = 8 then (expr_divide.j0 k a0 a1 a2 (a2 == (-1))) else (expr_divide.j0 k a0 a1 a2 false))) = some (r1, r2) := h
 clear h
 by_cases c4 : a2 = 0
 ·rw [if_pos c4] at H
  obtain ⟨c4b0, c4b1⟩ := qe c4
  clear c4
  simp only [Option.some.injEq, Prod.mk.injEq] at H
  obtain ⟨rfl, rfl⟩ := H
  go_enter Tryd.func134, Tryd.ntmps134
  go_wp2
  go_ret2
  exact ⟨by first | rfl | (simp; done) | (simp [*]; done), by repeat (first | exact Drawn0.refl _ | apply Drawn0.step)⟩
 rw [if_neg c4] at H
 obtain ⟨c4b0, c4b1⟩ := qd c4
 have HC5 := Aside0.mk H
 clear H
 go_enter Tryd.func134, Tryd.ntmps134
 go_upto_region 3 with (fail)
 go_cut [11] (fun v11 wc => ∃ (kq : Nat) (x11_4 : Bool), v11 = .bool x11_4 ∧ Aside0 (expr_divide.j0 kq a0 a1 a2 x11_4 = some (r1, r2)) ∧ Aside0 (kq ≤ k) ∧ Drawn0 w wc)
 case first =>
  have H := HC5.out
  clear HC5
  by_cases c6 : a0 = 8
  ·rw [if_pos c6] at H
   obtain ⟨c6b0, c6b1⟩ := qe c6
   clear c6
   (first | rw [c6b0] | (simp only [i64_w, i32_w]; rw [c6b0]) | skip)
   have H' := Aside0.mk H
   clear H
   go_wp2
   go_meet
   case rel => exact ⟨_, ((a2 == (-1))), qv, H', ql, by repeat (first | exact Drawn0.refl _ | apply Drawn0.step)⟩
  rw [if_neg c6] at H
  obtain ⟨c6b0, c6b1⟩ := qd c6
  (first | rw [c6b0] | (simp only [i64_w, i32_w]; rw [c6b0]) | skip)
  have H' := Aside0.mk H
  clear H
  go_wp2
  go_meet
  case rel => exact ⟨_, (false), qv, H', ql, by repeat (first | exact Drawn0.refl _ | apply Drawn0.step)⟩
 clear HC5
 obtain ⟨kq, x11_4, rfl, HA, HJ4, ⟨mc4, rfl⟩⟩ := hcut
 cases kq with
 | zero => exact absurd HA.out (by simp [expr_divide.j0])
 | succ kj4 =>
  have H := HA.out
  clear HA
  simp only [expr_divide.j0] at H
  by_cases c7 : x11_4 = true
  ·subst c7
   rw [if_pos rfl] at H
   simp only [Option.some.injEq, Prod.mk.injEq] at H
   obtain ⟨rfl, rfl⟩ := H
   go_wp2
   go_ret2
   exact ⟨by first | rfl | (simp; done) | (simp [*]; done), by repeat (first | exact Drawn0.refl _ | apply Drawn0.step)⟩
  replace c7 := Bool.eq_false_iff.mpr c7
  subst c7
  rw [if_neg qf] at H
  by_cases c8 : a0 = 8
  ·rw [if_pos c8] at H
   obtain ⟨c8b0, c8b1⟩ := qe c8
   clear c8
   by_cases c9 : a2 = 0
   ·rw [if_pos c9] at H
    exact absurd H (by simp)
   rw [if_neg c9] at H
   obtain ⟨c9b0, c9b1⟩ := qd c9
   simp only [Option.some.injEq, Prod.mk.injEq] at H
   obtain ⟨rfl, rfl⟩ := H
   go_wp2
   go_ret2
   exact ⟨by first | rfl | (simp; done) | (simp [*]; done), by repeat (first | exact Drawn0.refl _ | apply Drawn0.step)⟩
  rw [if_neg c8] at H
  obtain ⟨c8b0, c8b1⟩ := qd c8
  by_cases c10 : a2 = (-1)
  ·rw [if_pos c10] at H
   obtain ⟨c10b0, c10b1⟩ := qe c10
   clear c10
   replace H := qi H
   obtain ⟨⟨t101, t102⟩, A11, H⟩ := H
   replace H : (some (t101, t102)) = some (r1, r2) := H
   simp only [Option.some.injEq, Prod.mk.injEq] at H
   obtain ⟨rfl, rfl⟩ := H
   go_wp2_with (first | ((with_reducible refine gate_callee (f := 98) rfl ?_); refine goesL_ (some 28) rfl rfl Tryd.func98 (by kernel_rfl) rfl #[.int .i64 0, .int .i64 a1] rfl qm ?_; (with_reducible refine (expr_minus.calls 0 a1 t101 t102 _ A11.out).mono ?_); rintro e w' ⟨rfl, ⟨nd, rfl⟩⟩; refine ⟨_, rfl, ?_⟩))
   go_ret2
   exact ⟨by first | rfl | (simp; done) | (simp [*]; done), by repeat (first | exact Drawn0.refl _ | apply Drawn0.step)⟩
  rw [if_neg c10] at H
  obtain ⟨c10b0, c10b1⟩ := qd c10
  by_cases c12 : a2 = 0
  ·rw [if_pos c12] at H
   exact absurd H (by simp)
  rw [if_neg c12] at H
  obtain ⟨c12b0, c12b1⟩ := qd c12
  simp only [Option.some.injEq, Prod.mk.injEq] at H
  obtain ⟨rfl, rfl⟩ := H
  go_wp2
  go_ret2
  exact ⟨by first | rfl | (simp; done) | (simp [*]; done), by repeat (first | exact Drawn0.refl _ | apply Drawn0.step)⟩
def expr_plus.f (a0 : Int) (a1 : Int) : Option (Int × Int) := if ((decide ((wrap64 (a0 + a1)) < a0)) != (decide (a1 < 0))) = true then (some (0, 22)) else (some (wrap64 (a0 + a1), 0))
set_option maxHeartbeats 8000000 in
set_option maxRecDepth 100000 in
theorem expr_plus.calls (a0 : Int) (a1 : Int) (r1 : Int) (r2 : Int) (w : World) (h : expr_plus.f a0 a1 = some (r1, r2)) :
  Calls Tryd.prog 132 #[.int .i64 a0, .int .i64 a1] w fun e w' => e = .returned (.tuple #[.int .i64 r1, .int .i64 r2]) ∧ Drawn0 w w' := by
 have H : (if ((decide ((wrap64 (a0 + a1)) < a0)) != (decide (a1 < 0))) = true then (some (0, 22)) else (some (wrap64 (a0 + a1), 0))) = some (r1, r2) := h
 clear h
 by_cases c3 : ((decide ((wrap64 (a0 + a1)) < a0)) != (decide (a1 < 0))) = true
 ·rw [if_pos c3] at H
  have c3b0 : ((decide ((wrap64 (a0 + a1)) < a0)) != (decide (a1 < 0))) = true := c3
  (try (have c3b1 : decide ((decide ((wrap64 (a0 + a1)) < a0)) = (decide (a1 < 0))) = false := by simpa using c3))
  (try (have c3b2 : ((decide ((wrap64 (a0 + a1)) < a0)) == (decide (a1 < 0))) = false := by simpa using c3))
  (try (have c3b3 : ¬ ((decide ((wrap64 (a0 + a1)) < a0)) = (decide (a1 < 0))) := by simpa using c3))
  clear c3
  simp only [Option.some.injEq, Prod.mk.injEq] at H
  obtain ⟨rfl, rfl⟩ := H
  go_enter Tryd.func132, Tryd.ntmps132
  go_wp2
  go_ret2
  exact ⟨by first | rfl | (simp; done) | (simp [*]; done), by repeat (first | exact Drawn0.refl _ | apply Drawn0.step)⟩
 rw [if_neg c3] at H
 have c3b0 : ((decide ((wrap64 (a0 + a1)) < a0)) != (decide (a1 < 0))) = false := by simpa using c3
 (try (have c3b1 : decide ((decide ((wrap64 (a0 + a1)) < a0)) = (decide (a1 < 0))) = true := by simpa using c3))
 (try (have c3b2 : ((decide ((wrap64 (a0 + a1)) < a0)) == (decide (a1 < 0))) = true := by simpa using c3))
 clear c3
 simp only [Option.some.injEq, Prod.mk.injEq] at H
 obtain ⟨rfl, rfl⟩ := H
 go_enter Tryd.func132, Tryd.ntmps132
 go_wp2
 go_ret2
 exact ⟨by first | rfl | (simp; done) | (simp [*]; done), by repeat (first | exact Drawn0.refl _ | apply Drawn0.step)⟩
def expr_size.f (a0 : Int) : Option (Int) := if a0 < 0 then (some (IntKind.u64.wrap (-(IntKind.u64.wrap (a0))))) else (some (IntKind.u64.wrap (a0)))
set_option maxHeartbeats 8000000 in
set_option maxRecDepth 100000 in
theorem expr_size.calls (a0 : Int) (r : Int) (w : World) (h : expr_size.f a0 = some r) :
  Calls Tryd.prog 152 #[.int .i64 a0] w fun e w' => e = .returned (.int .u64 r) ∧ Drawn0 w w' := by
 have H : (if a0 < 0 then (some (IntKind.u64.wrap (-(IntKind.u64.wrap (a0))))) else (some (IntKind.u64.wrap (a0)))) = some r := h
 clear h
 by_cases c2 : a0 < 0
 ·rw [if_pos c2] at H
  have c2b0 : decide (a0 < 0) = true := decide_eq_true c2
  clear c2
  obtain rfl := Option.some.inj H
  go_enter Tryd.func152, Tryd.ntmps152
  go_wp2
  go_ret
  exact ⟨by first | rfl | (simp; done) | (simp [*]; done), by repeat (first | exact Drawn0.refl _ | apply Drawn0.step)⟩
 rw [if_neg c2] at H
 have c2b0 : decide (a0 < 0) = false := decide_eq_false c2
 clear c2
 obtain rfl := Option.some.inj H
 go_enter Tryd.func152, Tryd.ntmps152
 go_wp2
 go_ret
 exact ⟨by first | rfl | (simp; done) | (simp [*]; done), by repeat (first | exact Drawn0.refl _ | apply Drawn0.step)⟩
end Go.Proofs.YtiaccdaeomaogaaDoor.F
namespace Go.Proofs
open Go.Shelf
def Tryd.lays264_ren : Go.Shelf.Ren := ⟨fun | 264 => 151 | n => n, fun | 53 => 188 | 46 => 184 | n => n, fun | n => n⟩
theorem Tryd.lays264 : Go.Proofs.Lays.n264 Tryd.prog Tryd.lays264_ren := {
  mixed := by kernel_rfl
  f264 := Tryd.func151.trans (congrArg some (by kernel_rfl))
  t46 := Tryd.underlying184
  a46 := Tryd.isAgg184
  z46 := Tryd.sizeOf184
  v46 := Tryd.zeroValue184
  t53 := Tryd.underlying188
  a53 := Tryd.isAgg188
  z53 := Tryd.sizeOf188
  v53 := Tryd.zeroValue188 }
open Go.RowKit Go.Lib in
theorem Tryd.bits_Mul64 (x y : Nat) (hx : x < 18446744073709551616) (hy : y < 18446744073709551616) (w : World) :
    Calls Tryd.prog 151 #[.int .u64 x, .int .u64 y] w fun e w' => e = .returned (.tuple #[.int .u64 ((x * y / 18446744073709551616 : Nat) : Int), .int .u64 ((x * y % 18446744073709551616 : Nat) : Int)]) ∧ w' = w := Any.bits_Mul64 Tryd.lays264 x y hx hy w
end Go.Proofs
namespace Go.Proofs.YtiaccdaeomaogaaDoor.F
open Go.RowKit Go.Proofs.YtiaccdaeomaogaaDoorW.PrintWords Go.Proofs.YtiaccdaeomaogaaDoorW.PrintLast Go.Proofs.YtiaccdaeomaogaaDoorW.PrintMore
attribute [local go_sem] max2_int min2_int max_two min_two max_three min_three max_four min_four   -- for this text's walks alone
set_option linter.unusedVariables false
set_option linter.unusedSimpArgs false
def I64 (a : Int) : Prop := -9223372036854775808 ≤ a ∧ a ≤ 9223372036854775807
instance (a : Int) : Decidable (I64 a) := by unfold I64; infer_instance
def expr_times.f (a0 : Int) (a1 : Int) : Option (Int × Int) := if I64 a0 ∧ I64 a1 then some (if I64 (a0 * a1) then (a0 * a1, 0) else (0, 22)) else none
theorem size_f (a : Int) (h : I64 a) : expr_size.f a = some (a.natAbs : Int) := by
 unfold I64 at h
 unfold expr_size.f
 split
 ·rw [IntKind.wrap_u64, IntKind.wrap_u64]; congr 1; omega
 rw [IntKind.wrap_u64]; congr 1; omega
theorem times_sign (a b : Int) : (decide (a < 0) = decide (b < 0) → a * b = ((a.natAbs * b.natAbs : Nat) : Int)) ∧ (decide (a < 0) ≠ decide (b < 0) → a * b = -((a.natAbs * b.natAbs : Nat) : Int)) := by
 rcases Int.natAbs_eq a with ha | ha <;> rcases Int.natAbs_eq b with hb | hb
 all_goals
  generalize a.natAbs = x at *
  generalize b.natAbs = y at *
  subst ha hb
  constructor
 ·intro _; simp
 ·intro h; exact absurd (by rw [decide_eq_false (by omega), decide_eq_false (by omega)]) h
 ·intro h
  by_cases hy : y = 0
  ·subst hy; simp
  rw [decide_eq_false (by omega), decide_eq_true (by omega)] at h; cases h
 ·intro _; simp [Int.mul_neg]
 ·intro h
  by_cases hx : x = 0
  ·subst hx; simp
  rw [decide_eq_true (by omega), decide_eq_false (by omega)] at h; cases h
 ·intro _; simp [Int.neg_mul]
 ·intro _; simp [Int.neg_mul_neg]
 intro h
 by_cases hx : x = 0
 ·subst hx; simp
 by_cases hy : y = 0
 ·subst hy; simp
 exact absurd (by rw [decide_eq_true (by omega), decide_eq_true (by omega)]) h
theorem ret_pair {a b c d : Int} (h : a = c) (h2 : b = d) : Ending.returned (.tuple #[.int .i64 a, .int .i64 b]) = .returned (.tuple #[.int .i64 c, .int .i64 d]) := by rw [h, h2]
set_option maxHeartbeats 8000000 in
set_option maxRecDepth 100000 in
theorem expr_times.calls (a0 : Int) (a1 : Int) (r1 : Int) (r2 : Int) (w : World) (h : expr_times.f a0 a1 = some (r1, r2)) :
  Calls Tryd.prog 133 #[.int .i64 a0, .int .i64 a1] w fun e w' => e = .returned (.tuple #[.int .i64 r1, .int .i64 r2]) ∧ Drawn0 w w' := by
 unfold expr_times.f at h
 by_cases hr : I64 a0 ∧ I64 a1
 case neg => rw [if_neg hr] at h; cases h
 rw [if_pos hr] at h
 obtain ⟨hr0, hr1⟩ := hr
 have A3 := Aside0.mk hr0
 have A4 := Aside0.mk hr1
 obtain ⟨hs, hd⟩ := times_sign a0 a1
 have hx : a0.natAbs < 18446744073709551616 := by unfold I64 at hr0; omega
 have hy : a1.natAbs < 18446744073709551616 := by unfold I64 at hr1; omega
 have HM := Aside0.mk (fun w' => Tryd.bits_Mul64 a0.natAbs a1.natAbs hx hy w')
 obtain ⟨t, ht⟩ : ∃ t : Int, a0 * a1 = t := ⟨_, rfl⟩
 obtain ⟨p, hp⟩ : ∃ p : Nat, a0.natAbs * a1.natAbs = p := ⟨_, rfl⟩
 rw [ht, hp] at hs hd
 rw [ht] at h
 rw [hp] at HM
 obtain ⟨hi, hhi⟩ : ∃ hi : Int, ((p / 18446744073709551616 : Nat) : Int) = hi := ⟨_, rfl⟩
 obtain ⟨lo, hlo⟩ : ∃ lo : Int, ((p % 18446744073709551616 : Nat) : Int) = lo := ⟨_, rfl⟩
 rw [hhi, hlo] at HM
 have hsp : (hi = 0 ↔ p < 18446744073709551616) ∧ 0 ≤ hi ∧ 0 ≤ lo ∧ lo < 18446744073709551616 ∧ (hi = 0 → lo = p) := by omega
 clear hx hy hp hhi hlo
 by_cases s0 : a0 < 0 <;> by_cases s1 : a1 < 0
 ·have g0 : decide (a0 < 0) = true := decide_eq_true s0
  have g1 : decide (a1 < 0) = true := decide_eq_true s1
  have hv := hs (by rw [g0, g1])
  by_cases hok : I64 t
  ·rw [if_pos hok] at h
   simp at h
   obtain ⟨rfl, rfl⟩ := h
   have f1 : decide (hi > 0) = false := decide_eq_false (by unfold I64 at hok; omega)
   have f2 : decide (lo > 9223372036854775807) = false := decide_eq_false (by unfold I64 at hok; omega)
   have HF : Aside0 (lo = t ∧ I64 t) := ⟨by unfold I64 at hok; omega, hok⟩
   clear s0 s1 hsp hok hr0 hr1 hs hd ht
   go_enter Tryd.func133, Tryd.ntmps133
   go_wp2_with (first | (go_at_call 152; (with_reducible refine (expr_size.calls _ _ _ (size_f _ (by first | exact A3.out | exact A4.out))).mono ?_); rintro e w' ⟨rfl, ⟨nd, rfl⟩⟩) | (go_at_call 151; refine (HM.out _).mono ?_; rintro e w' ⟨rfl, rfl⟩))
   go_ret2
   refine ⟨ret_pair ?_ rfl, by repeat (first | exact Drawn0.refl _ | apply Drawn0.step)⟩
   have hf := HF.out
   unfold I64 at hf
   (try simp only [IntKind.wrap_u64])
   unfold wrap64
   omega
  rw [if_neg hok] at h
  simp at h
  obtain ⟨rfl, rfl⟩ := h
  by_cases hz : hi = 0
  ·have f1 : decide (hi > 0) = false := decide_eq_false (by omega)
   have f2 : decide (lo > 9223372036854775807) = true := decide_eq_true (by unfold I64 at hok; omega)
   clear s0 s1 hsp hok hr0 hr1 hs hd ht hz
   go_enter Tryd.func133, Tryd.ntmps133
   go_wp2_with (first | (go_at_call 152; (with_reducible refine (expr_size.calls _ _ _ (size_f _ (by first | exact A3.out | exact A4.out))).mono ?_); rintro e w' ⟨rfl, ⟨nd, rfl⟩⟩) | (go_at_call 151; refine (HM.out _).mono ?_; rintro e w' ⟨rfl, rfl⟩))
   go_ret2
   exact ⟨rfl, by repeat (first | exact Drawn0.refl _ | apply Drawn0.step)⟩
  have f1 : decide (hi > 0) = true := decide_eq_true (by omega)
  clear s0 s1 hsp hok hr0 hr1 hs hd ht hz
  go_enter Tryd.func133, Tryd.ntmps133
  go_wp2_with (first | (go_at_call 152; (with_reducible refine (expr_size.calls _ _ _ (size_f _ (by first | exact A3.out | exact A4.out))).mono ?_); rintro e w' ⟨rfl, ⟨nd, rfl⟩⟩) | (go_at_call 151; refine (HM.out _).mono ?_; rintro e w' ⟨rfl, rfl⟩))
  go_ret2
  exact ⟨rfl, by repeat (first | exact Drawn0.refl _ | apply Drawn0.step)⟩
 ·have g0 : decide (a0 < 0) = true := decide_eq_true s0
  have g1 : decide (a1 < 0) = false := decide_eq_false s1
  have hv := hd (by rw [g0, g1]; decide)
  by_cases hok : I64 t
  ·rw [if_pos hok] at h
   simp at h
   obtain ⟨rfl, rfl⟩ := h
   have f1 : decide (hi > 0) = false := decide_eq_false (by unfold I64 at hok; omega)
   have f2 : decide (lo > 9223372036854775808) = false := decide_eq_false (by unfold I64 at hok; omega)
   have HF : Aside0 (lo = -t ∧ I64 t) := ⟨by unfold I64 at hok; omega, hok⟩
   clear s0 s1 hsp hok hr0 hr1 hs hd ht
   go_enter Tryd.func133, Tryd.ntmps133
   go_wp2_with (first | (go_at_call 152; (with_reducible refine (expr_size.calls _ _ _ (size_f _ (by first | exact A3.out | exact A4.out))).mono ?_); rintro e w' ⟨rfl, ⟨nd, rfl⟩⟩) | (go_at_call 151; refine (HM.out _).mono ?_; rintro e w' ⟨rfl, rfl⟩))
   go_ret2
   refine ⟨ret_pair ?_ rfl, by repeat (first | exact Drawn0.refl _ | apply Drawn0.step)⟩
   have hf := HF.out
   unfold I64 at hf
   (try simp only [IntKind.wrap_u64])
   unfold wrap64
   omega
  rw [if_neg hok] at h
  simp at h
  obtain ⟨rfl, rfl⟩ := h
  by_cases hz : hi = 0
  ·have f1 : decide (hi > 0) = false := decide_eq_false (by omega)
   have f2 : decide (lo > 9223372036854775808) = true := decide_eq_true (by unfold I64 at hok; omega)
   clear s0 s1 hsp hok hr0 hr1 hs hd ht hz
   go_enter Tryd.func133, Tryd.ntmps133
   go_wp2_with (first | (go_at_call 152; (with_reducible refine (expr_size.calls _ _ _ (size_f _ (by first | exact A3.out | exact A4.out))).mono ?_); rintro e w' ⟨rfl, ⟨nd, rfl⟩⟩) | (go_at_call 151; refine (HM.out _).mono ?_; rintro e w' ⟨rfl, rfl⟩))
   go_ret2
   exact ⟨rfl, by repeat (first | exact Drawn0.refl _ | apply Drawn0.step)⟩
  have f1 : decide (hi > 0) = true := decide_eq_true (by omega)
  clear s0 s1 hsp hok hr0 hr1 hs hd ht hz
  go_enter Tryd.func133, Tryd.ntmps133
  go_wp2_with (first | (go_at_call 152; (with_reducible refine (expr_size.calls _ _ _ (size_f _ (by first | exact A3.out | exact A4.out))).mono ?_); rintro e w' ⟨rfl, ⟨nd, rfl⟩⟩) | (go_at_call 151; refine (HM.out _).mono ?_; rintro e w' ⟨rfl, rfl⟩))
  go_ret2
  exact ⟨rfl, by repeat (first | exact Drawn0.refl _ | apply Drawn0.step)⟩
 ·have g0 : decide (a0 < 0) = false := decide_eq_false s0
  have g1 : decide (a1 < 0) = true := decide_eq_true s1
  have hv := hd (by rw [g0, g1]; decide)
  by_cases hok : I64 t
  ·rw [if_pos hok] at h
   simp at h
   obtain ⟨rfl, rfl⟩ := h
   have f1 : decide (hi > 0) = false := decide_eq_false (by unfold I64 at hok; omega)
   have f2 : decide (lo > 9223372036854775808) = false := decide_eq_false (by unfold I64 at hok; omega)
   have HF : Aside0 (lo = -t ∧ I64 t) := ⟨by unfold I64 at hok; omega, hok⟩
   clear s0 s1 hsp hok hr0 hr1 hs hd ht
   go_enter Tryd.func133, Tryd.ntmps133
   go_wp2_with (first | (go_at_call 152; (with_reducible refine (expr_size.calls _ _ _ (size_f _ (by first | exact A3.out | exact A4.out))).mono ?_); rintro e w' ⟨rfl, ⟨nd, rfl⟩⟩) | (go_at_call 151; refine (HM.out _).mono ?_; rintro e w' ⟨rfl, rfl⟩))
   go_ret2
   refine ⟨ret_pair ?_ rfl, by repeat (first | exact Drawn0.refl _ | apply Drawn0.step)⟩
   have hf := HF.out
   unfold I64 at hf
   (try simp only [IntKind.wrap_u64])
   unfold wrap64
   omega
  rw [if_neg hok] at h
  simp at h
  obtain ⟨rfl, rfl⟩ := h
  by_cases hz : hi = 0
  ·have f1 : decide (hi > 0) = false := decide_eq_false (by omega)
   have f2 : decide (lo > 9223372036854775808) = true := decide_eq_true (by unfold I64 at hok; omega)
   clear s0 s1 hsp hok hr0 hr1 hs hd ht hz
   go_enter Tryd.func133, Tryd.ntmps133
   go_wp2_with (first | (go_at_call 152; (with_reducible refine (expr_size.calls _ _ _ (size_f _ (by first | exact A3.out | exact A4.out))).mono ?_); rintro e w' ⟨rfl, ⟨nd, rfl⟩⟩) | (go_at_call 151; refine (HM.out _).mono ?_; rintro e w' ⟨rfl, rfl⟩))
   go_ret2
   exact ⟨rfl, by repeat (first | exact Drawn0.refl _ | apply Drawn0.step)⟩
  have f1 : decide (hi > 0) = true := decide_eq_true (by omega)
  clear s0 s1 hsp hok hr0 hr1 hs hd ht hz
  go_enter Tryd.func133, Tryd.ntmps133
  go_wp2_with (first | (go_at_call 152; (with_reducible refine (expr_size.calls _ _ _ (size_f _ (by first | exact A3.out | exact A4.out))).mono ?_); rintro e w' ⟨rfl, ⟨nd, rfl⟩⟩) | (go_at_call 151; refine (HM.out _).mono ?_; rintro e w' ⟨rfl, rfl⟩))
  go_ret2
  exact ⟨rfl, by repeat (first | exact Drawn0.refl _ | apply Drawn0.step)⟩
 have g0 : decide (a0 < 0) = false := decide_eq_false s0
 have g1 : decide (a1 < 0) = false := decide_eq_false s1
 have hv := hs (by rw [g0, g1])
 by_cases hok : I64 t
 ·rw [if_pos hok] at h
  simp at h
  obtain ⟨rfl, rfl⟩ := h
  have f1 : decide (hi > 0) = false := decide_eq_false (by unfold I64 at hok; omega)
  have f2 : decide (lo > 9223372036854775807) = false := decide_eq_false (by unfold I64 at hok; omega)
  have HF : Aside0 (lo = t ∧ I64 t) := ⟨by unfold I64 at hok; omega, hok⟩
  clear s0 s1 hsp hok hr0 hr1 hs hd ht
  go_enter Tryd.func133, Tryd.ntmps133
  go_wp2_with (first | (go_at_call 152; (with_reducible refine (expr_size.calls _ _ _ (size_f _ (by first | exact A3.out | exact A4.out))).mono ?_); rintro e w' ⟨rfl, ⟨nd, rfl⟩⟩) | (go_at_call 151; refine (HM.out _).mono ?_; rintro e w' ⟨rfl, rfl⟩))
  go_ret2
  refine ⟨ret_pair ?_ rfl, by repeat (first | exact Drawn0.refl _ | apply Drawn0.step)⟩
  have hf := HF.out
  unfold I64 at hf
  (try simp only [IntKind.wrap_u64])
  unfold wrap64
  omega
 rw [if_neg hok] at h
 simp at h
 obtain ⟨rfl, rfl⟩ := h
 by_cases hz : hi = 0
 ·have f1 : decide (hi > 0) = false := decide_eq_false (by omega)
  have f2 : decide (lo > 9223372036854775807) = true := decide_eq_true (by unfold I64 at hok; omega)
  clear s0 s1 hsp hok hr0 hr1 hs hd ht hz
  go_enter Tryd.func133, Tryd.ntmps133
  go_wp2_with (first | (go_at_call 152; (with_reducible refine (expr_size.calls _ _ _ (size_f _ (by first | exact A3.out | exact A4.out))).mono ?_); rintro e w' ⟨rfl, ⟨nd, rfl⟩⟩) | (go_at_call 151; refine (HM.out _).mono ?_; rintro e w' ⟨rfl, rfl⟩))
  go_ret2
  exact ⟨rfl, by repeat (first | exact Drawn0.refl _ | apply Drawn0.step)⟩
 have f1 : decide (hi > 0) = true := decide_eq_true (by omega)
 clear s0 s1 hsp hok hr0 hr1 hs hd ht hz
 go_enter Tryd.func133, Tryd.ntmps133
 go_wp2_with (first | (go_at_call 152; (with_reducible refine (expr_size.calls _ _ _ (size_f _ (by first | exact A3.out | exact A4.out))).mono ?_); rintro e w' ⟨rfl, ⟨nd, rfl⟩⟩) | (go_at_call 151; refine (HM.out _).mono ?_; rintro e w' ⟨rfl, rfl⟩))
 go_ret2
 exact ⟨rfl, by repeat (first | exact Drawn0.refl _ | apply Drawn0.step)⟩
end Go.Proofs.YtiaccdaeomaogaaDoor.F
