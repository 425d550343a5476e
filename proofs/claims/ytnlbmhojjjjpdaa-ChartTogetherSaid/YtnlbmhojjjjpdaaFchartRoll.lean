-- written by inject.py (this session's) with the kit's printer. Lean checks it.
import Derived.Test.YtnlbmhojjjjpdaaF0
import Derived.Test.YtnlbmhojjjjpdaaFslicesContainsFuncintint
import Derived.Test.YtnlbmhojjjjpdaaFslicesContainsintint
import Derived.Test.YtnlbmhojjjjpdaaFslicesIndexFuncintint
import Derived.Test.YtnlbmhojjjjpdaaFslicesIndexintint
namespace Go.Proofs.Ytnlbmhojjjjpdaa.F
open Go.RowKit Go.Proofs.YtnlbmhojjjjpdaaW.PrintWords Go.Proofs.YtnlbmhojjjjpdaaW.PrintLast Go.Proofs.YtnlbmhojjjjpdaaW.PrintMore
attribute [local go_sem] max2_int min2_int max_two min_two max_three min_three max_four min_four   -- for this text's walks alone
set_option linter.unusedVariables false
set_option linter.unusedSimpArgs false

/-! ### chart_Roll: function 35 -/
theorem Index_at (l : List Int) (x : Int) (hl : l.length ≤ 9223372036854775806) (d : Nat) : ∀ (k : Nat) (i : Int), 0 ≤ i → (i + d = (l.length : Int)) → d < k → (∀ j : Int, 0 ≤ j → j < i → (decide (x = rd l j)) = false) →
    slices_Index_int_int.l0 k l x (l.length : Int) i = some (idxF (fun y => decide (x = y)) l) := by
  induction d with
  | zero =>
    intro k i h0 h1 hk hn
    obtain ⟨k, rfl⟩ : ∃ m, k = m + 1 := ⟨k - 1, by omega⟩
    simp only [slices_Index_int_int.l0]
    rw [if_neg (by omega), idxF_none (p := fun y => decide (x = y)) (fun j a b => hn j a (by omega))]
  | succ d ih =>
    intro k i h0 h1 hk hn
    obtain ⟨k, rfl⟩ : ∃ m, k = m + 1 := ⟨k - 1, by omega⟩
    simp only [slices_Index_int_int.l0]
    rw [if_pos (by omega), if_pos h0, if_pos (by omega)]
    by_cases h : x = rd l i
    · rw [if_pos h, idxF_at (p := fun y => decide (x = y)) h0 (by omega) (decide_eq_true h) hn]
    · rw [if_neg h, show wrap64 (i + 1) = i + 1 from by unfold wrap64; omega]
      refine ih k (i + 1) (by omega) (by omega) (by omega) (fun j a b => ?_)
      rcases Int.lt_or_eq_of_le (show j ≤ i by omega) with h' | rfl
      · exact hn j a h'
      · exact decide_eq_false h
/-- Is a state among these? -/
def hasB (l : List Int) (x : Int) : Bool := l.any (fun y => decide (x = y))
theorem Contains_f (l : List Int) (x : Int) (hl : l.length ≤ 9223372036854775806) : slices_Contains_int_int.f (l.length + 1) l x = some (hasB l x) := by
  unfold slices_Contains_int_int.f slices_Index_int_int.f
  rw [Index_at l x hl l.length (l.length + 1) 0 (by omega) (by omega) (by omega) (fun j a b => by omega)]
  simp only [Option.bind_some]
  exact congrArg some (idxF_any (fun y => decide (x = y)) l)
set_option maxHeartbeats 4000000 in
set_option maxRecDepth 100000 in
theorem Roll_some (A0 : Option Addr) (c0 : Nat) (l0 : List Int) (x : Int) (g : Nat) (w : World) (hb : w.heap[g]? = some (.cells #[.slice A0 l0.length c0] 54 (0, 0))) (hr0 : Kd.C (Kd.int .i64) w A0 l0.length l0) (hc0 : l0.length ≤ c0) (hm0 : l0.length ≤ 9223372036854775806) :
    Calls Try.prog 63 #[.int .i64 x, .pointer (some ⟨g, 0, none⟩)] w fun e w' => e = .returned (.bool (hasB l0 x)) ∧ Drawn0 w w' := by
  have HX := Aside0.mk (slices_Contains_int_int.calls (l0.length + 1) A0 c0 l0 x (hasB l0 x) w hr0 hc0 (Contains_f l0 x hm0))
  have hcell : w.cell? ⟨g, 0, none⟩ = some (.slice A0 l0.length c0) := (blk_cell hb 0).trans rfl
  clear hr0 hc0 hb
  generalize hasB l0 x = bx at HX
  go_enter Try.func63, Try.ntmps63
  go_wp2_with (first | (go_at_call 64; refine HX.out.mono ?_; rintro e w' ⟨rfl, ⟨nd, rfl⟩⟩))
  go_ret
  exact ⟨rfl, by repeat (first | exact Drawn0.refl _ | apply Drawn0.step)⟩

def cntD (l : List Int) : Int := (l.countP (fun x => decide (x = 11)) : Nat)
def rollAt (l : List Int) (s k : Int) : Int := if hasB l s = true then s else if hasB l (s + 1) = true then (if l.any actB = true then s else s + 1) else k
def restP (l : List Int) : Int :=
  if hasB l 6 = true then 6 else if hasB l 2 = true then 2 else if hasB l 3 = true then (if hasB l 1 = true then 2 else 3) else if hasB l 1 = true then 1 else
  if cntD l = 0 then 0 else if cntD l = l.length then 11 else 1
/-- What Roll tells. -/
def rollP (l : List Int) : Int := rollAt l 9 (rollAt l 7 (rollAt l 4 (restP l)))
theorem rollAt_1 {l : List Int} {s k : Int} (h : hasB l s = true) : rollAt l s k = s := by unfold rollAt; rw [if_pos h]
theorem rollAt_2 {l : List Int} {s k : Int} (h : hasB l s = false) (h1 : hasB l (s + 1) = true) (ha : l.any actB = true) : rollAt l s k = s := by unfold rollAt; rw [if_neg (by rw [h]; decide), if_pos h1, if_pos ha]
theorem rollAt_3 {l : List Int} {s k : Int} (h : hasB l s = false) (h1 : hasB l (s + 1) = true) (ha : l.any actB = false) : rollAt l s k = s + 1 := by unfold rollAt; rw [if_neg (by rw [h]; decide), if_pos h1, if_neg (by rw [ha]; decide)]
theorem rollAt_4 {l : List Int} {s k : Int} (h : hasB l s = false) (h1 : hasB l (s + 1) = false) : rollAt l s k = k := by unfold rollAt; rw [if_neg (by rw [h]; decide), if_neg (by rw [h1]; decide)]
theorem cntD_take (l : List Int) (i : Int) (h0 : 0 ≤ i) (h1 : i < (l.length : Int)) : cntD (l.take (i + 1).toNat) = cntD (l.take i.toNat) + (if rd l i = 11 then 1 else 0) := by
  obtain ⟨n, rfl⟩ := Int.eq_ofNat_of_zero_le h0
  have hn : n < l.length := by omega
  rw [rd_get l n hn, show ((n : Int) + 1).toNat = n + 1 from by omega, show ((n : Int)).toNat = n from by omega, List.take_succ_eq_append_getElem hn]
  unfold cntD
  rw [List.countP_append]
  by_cases h : l[n] = 11 <;> simp [List.countP_cons, h]
theorem cntD_le (l : List Int) : 0 ≤ cntD l ∧ cntD l ≤ l.length := by unfold cntD; have := List.countP_le_length (p := fun x => decide (x = (11 : Int))) (l := l); omega
def chart_Roll.f (l0 : List Int) : Option (Int) := if l0.length < 4611686018427387904 then some (rollP l0) else none
/-- What has come to pass ahead of a round. -/
def RollAt (l : List Int) (x : Int) : Prop := (x = 0) ∨ (x = 1 ∧ rollP l = rollAt l 7 (rollAt l 4 (restP l))) ∨ (x = 2 ∧ rollP l = rollAt l 4 (restP l)) ∨ (x = 3 ∧ rollP l = restP l)
set_option maxHeartbeats 8000000 in
set_option maxRecDepth 100000 in
theorem chart_Roll.calls (A0 : Option Addr) (c0 : Nat) (l0 : List Int) (r : Int) (w : World) (hr0 : Kd.C (Kd.int .i64) w A0 l0.length l0) (hc0 : l0.length ≤ c0) (h : chart_Roll.f l0 = some r) :
    Calls Try.prog 35 #[.slice A0 l0.length c0] w fun e w' => e = .returned (.int .i64 r) ∧ Below w.heap.size w w' := by
  have hm : l0.length < 4611686018427387904 := by unfold chart_Roll.f at h; split at h <;> simp_all
  obtain rfl : rollP l0 = r := by unfold chart_Roll.f at h; rw [if_pos hm] at h; exact (Option.some.inj h)
  clear h
  have hr1 := Kd.C_below hr0 (below_alloc (Below.refl _ w) (.cells #[.slice A0 l0.length c0] 54))
  have HA := Aside0.mk (ContainsFunc_acting A0 c0 l0 _ hr1 hc0 (by omega))
  obtain ⟨acts, hacts⟩ : ∃ b, b = l0.any actB := ⟨_, rfl⟩
  rw [← hacts] at HA
  have HACT := Aside0.mk hacts
  clear hacts
  go_enter Try.func35, Try.ntmps35
  go_wp2_with (first | (go_at_call 62; refine HA.out.mono ?_; rintro e w' ⟨rfl, ⟨nd, rfl⟩⟩))
  clear HA
  obtain ⟨W1, hW1⟩ : ∃ W1, W1 = (((w.alloc (Obj.cells #[Value.slice A0 l0.length c0] 54)).drewN nd).alloc (Obj.cells #[Value.int IntKind.i64 9, Value.int IntKind.i64 7, Value.int IntKind.i64 4] 3)) := ⟨_, rfl⟩
  rw [← hW1]
  have hB1 : Below w.heap.size w W1 := by rw [hW1]; exact below_alloc (pw_below_drewN (below_alloc (Below.refl _ w) _) nd) _
  have hbox : W1.heap[w.heap.size]? = some (.cells #[.slice A0 l0.length c0] 54 (0, 0)) := by rw [hW1]; exact ((below_alloc (Below.refl _ ((w.alloc (Obj.cells #[Value.slice A0 l0.length c0] 54)).drewN nd)) _).block w.heap.size (by simp)).trans (by simpa using heap_alloc_new w (Obj.cells #[Value.slice A0 l0.length c0] 54))
  have hlit : W1.heap[w.heap.size + 1]? = some (.cells #[.int .i64 9, .int .i64 7, .int .i64 4] 3 (0, 0)) := by rw [hW1]; simpa using heap_alloc_new ((w.alloc (Obj.cells #[Value.slice A0 l0.length c0] 54)).drewN nd) (Obj.cells #[Value.int IntKind.i64 9, Value.int IntKind.i64 7, Value.int IntKind.i64 4] 3)
  have hC1 := Kd.C_below hr0 hB1
  clear hr1 hr0 hW1
  have q0 : W1.cell? ⟨w.heap.size + 1, 0, none⟩ = some (.int .i64 9) := (blk_cell hlit 0).trans rfl
  have q1 : W1.cell? ⟨w.heap.size + 1, 1, none⟩ = some (.int .i64 7) := (blk_cell hlit 1).trans rfl
  have q2 : W1.cell? ⟨w.heap.size + 1, 2, none⟩ = some (.int .i64 4) := (blk_cell hlit 2).trans rfl
  have qb : W1.cell? ⟨w.heap.size, 0, none⟩ = some (.slice A0 l0.length c0) := (blk_cell hbox 0).trans rfl
  have HS := Aside0.mk (fun (x : Int) (n : Nat) => Roll_some A0 c0 l0 x w.heap.size (W1.drewN n) hbox (Kd.C_below hC1 (pw_below_drewN (Below.refl _ _) n)) hc0 (by omega))
  have HC := Aside0.mk hC1
  have HB := Aside0.mk hB1
  have HC0 := Aside0.mk hc0
  have HM := Aside0.mk hm
  clear hlit hbox hC1 hB1 hc0
  go_loopg [15] 3 (fun kq v15 w' => ∃ x : Int, v15 = .int .i64 x ∧ Aside0 ((kq : Int) = 3 - x) ∧ Aside0 (RollAt l0 x) ∧ Drawn0 W1 w')
  case atStart => exact ⟨0, rfl, ⟨rfl⟩, ⟨.inl rfl⟩, Drawn0.refl _⟩
  case round =>
    obtain ⟨x, rfl, HK, HR, ⟨m1, rfl⟩⟩ := hrel
    rcases HR.out with rfl | ⟨rfl, hp⟩ | ⟨rfl, hp⟩ | ⟨rfl, hp⟩
    · have HP := Aside0.mk (show rollP l0 = rollAt l0 9 (rollAt l0 7 (rollAt l0 4 (restP l0))) from rfl)
      cases h9 : hasB l0 9 with
      | true =>
        have H9 := Aside0.mk h9
        go_wp2_with (first | (go_at_call 63; refine (HS.out _ _).mono ?_; rintro e w' ⟨rfl, ⟨nd, rfl⟩⟩))
        go_ret
        exact ⟨ret_int (HP.out.trans (rollAt_1 H9.out)).symm, by repeat (first | (with_reducible first | exact HB.out | apply below_alloc | apply pw_below_drewN | apply below_drew1) | exact HB.out)⟩
      | false =>
        have H9 := Aside0.mk h9
        cases h10 : hasB l0 10 with
        | true =>
          have H10 := Aside0.mk h10
          cases acts with
          | true =>
            go_wp2_with (first | (go_at_call 63; refine (HS.out _ _).mono ?_; rintro e w' ⟨rfl, ⟨nd, rfl⟩⟩))
            go_ret
            exact ⟨ret_int (HP.out.trans (rollAt_2 H9.out H10.out HACT.out.symm)).symm, by repeat (first | (with_reducible first | exact HB.out | apply below_alloc | apply pw_below_drewN | apply below_drew1) | exact HB.out)⟩
          | false =>
            go_wp2_with (first | (go_at_call 63; refine (HS.out _ _).mono ?_; rintro e w' ⟨rfl, ⟨nd, rfl⟩⟩))
            go_ret
            exact ⟨ret_int (HP.out.trans (rollAt_3 H9.out H10.out HACT.out.symm)).symm, by repeat (first | (with_reducible first | exact HB.out | apply below_alloc | apply pw_below_drewN | apply below_drew1) | exact HB.out)⟩
        | false =>
          have H10 := Aside0.mk h10
          go_wp2_with (first | (go_at_call 63; refine (HS.out _ _).mono ?_; rintro e w' ⟨rfl, ⟨nd, rfl⟩⟩))
          go_roundg 2
          case measure => have := HK.out; omega
          case rel => exact ⟨1, rfl, ⟨rfl⟩, ⟨.inr (.inl ⟨rfl, HP.out.trans (rollAt_4 H9.out H10.out)⟩)⟩, by repeat (first | exact Drawn0.refl _ | apply Drawn0.step)⟩
    · have HP := Aside0.mk (show rollP l0 = rollAt l0 7 (rollAt l0 4 (restP l0)) from hp)
      clear hp
      cases h9 : hasB l0 7 with
      | true =>
        have H9 := Aside0.mk h9
        go_wp2_with (first | (go_at_call 63; refine (HS.out _ _).mono ?_; rintro e w' ⟨rfl, ⟨nd, rfl⟩⟩))
        go_ret
        exact ⟨ret_int (HP.out.trans (rollAt_1 H9.out)).symm, by repeat (first | (with_reducible first | exact HB.out | apply below_alloc | apply pw_below_drewN | apply below_drew1) | exact HB.out)⟩
      | false =>
        have H9 := Aside0.mk h9
        cases h10 : hasB l0 8 with
        | true =>
          have H10 := Aside0.mk h10
          cases acts with
          | true =>
            go_wp2_with (first | (go_at_call 63; refine (HS.out _ _).mono ?_; rintro e w' ⟨rfl, ⟨nd, rfl⟩⟩))
            go_ret
            exact ⟨ret_int (HP.out.trans (rollAt_2 H9.out H10.out HACT.out.symm)).symm, by repeat (first | (with_reducible first | exact HB.out | apply below_alloc | apply pw_below_drewN | apply below_drew1) | exact HB.out)⟩
          | false =>
            go_wp2_with (first | (go_at_call 63; refine (HS.out _ _).mono ?_; rintro e w' ⟨rfl, ⟨nd, rfl⟩⟩))
            go_ret
            exact ⟨ret_int (HP.out.trans (rollAt_3 H9.out H10.out HACT.out.symm)).symm, by repeat (first | (with_reducible first | exact HB.out | apply below_alloc | apply pw_below_drewN | apply below_drew1) | exact HB.out)⟩
        | false =>
          have H10 := Aside0.mk h10
          go_wp2_with (first | (go_at_call 63; refine (HS.out _ _).mono ?_; rintro e w' ⟨rfl, ⟨nd, rfl⟩⟩))
          go_roundg 1
          case measure => have := HK.out; omega
          case rel => exact ⟨2, rfl, ⟨rfl⟩, ⟨.inr (.inr (.inl ⟨rfl, HP.out.trans (rollAt_4 H9.out H10.out)⟩))⟩, by repeat (first | exact Drawn0.refl _ | apply Drawn0.step)⟩
    · have HP := Aside0.mk (show rollP l0 = rollAt l0 4 (restP l0) from hp)
      clear hp
      cases h9 : hasB l0 4 with
      | true =>
        have H9 := Aside0.mk h9
        go_wp2_with (first | (go_at_call 63; refine (HS.out _ _).mono ?_; rintro e w' ⟨rfl, ⟨nd, rfl⟩⟩))
        go_ret
        exact ⟨ret_int (HP.out.trans (rollAt_1 H9.out)).symm, by repeat (first | (with_reducible first | exact HB.out | apply below_alloc | apply pw_below_drewN | apply below_drew1) | exact HB.out)⟩
      | false =>
        have H9 := Aside0.mk h9
        cases h10 : hasB l0 5 with
        | true =>
          have H10 := Aside0.mk h10
          cases acts with
          | true =>
            go_wp2_with (first | (go_at_call 63; refine (HS.out _ _).mono ?_; rintro e w' ⟨rfl, ⟨nd, rfl⟩⟩))
            go_ret
            exact ⟨ret_int (HP.out.trans (rollAt_2 H9.out H10.out HACT.out.symm)).symm, by repeat (first | (with_reducible first | exact HB.out | apply below_alloc | apply pw_below_drewN | apply below_drew1) | exact HB.out)⟩
          | false =>
            go_wp2_with (first | (go_at_call 63; refine (HS.out _ _).mono ?_; rintro e w' ⟨rfl, ⟨nd, rfl⟩⟩))
            go_ret
            exact ⟨ret_int (HP.out.trans (rollAt_3 H9.out H10.out HACT.out.symm)).symm, by repeat (first | (with_reducible first | exact HB.out | apply below_alloc | apply pw_below_drewN | apply below_drew1) | exact HB.out)⟩
        | false =>
          have H10 := Aside0.mk h10
          go_wp2_with (first | (go_at_call 63; refine (HS.out _ _).mono ?_; rintro e w' ⟨rfl, ⟨nd, rfl⟩⟩))
          go_roundg 0
          case measure => have := HK.out; omega
          case rel => exact ⟨3, rfl, ⟨rfl⟩, ⟨.inr (.inr (.inr ⟨rfl, HP.out.trans (rollAt_4 H9.out H10.out)⟩))⟩, by repeat (first | exact Drawn0.refl _ | apply Drawn0.step)⟩
    · have HP := Aside0.mk hp
      clear hp q0 q1 q2
      cases h6 : hasB l0 6 with
      | true =>
        have H6 := Aside0.mk h6
        go_wp2_with (first | (go_at_call 63; refine (HS.out _ _).mono ?_; rintro e w' ⟨rfl, ⟨nd, rfl⟩⟩))
        go_ret
        exact ⟨ret_int (HP.out.trans (by unfold restP; rw [if_pos H6.out])).symm, by repeat (first | (with_reducible first | exact HB.out | apply below_alloc | apply pw_below_drewN | apply below_drew1) | exact HB.out)⟩
      | false =>
        have H6 := Aside0.mk h6
        cases h2 : hasB l0 2 with
        | true =>
          have H2 := Aside0.mk h2
          go_wp2_with (first | (go_at_call 63; refine (HS.out _ _).mono ?_; rintro e w' ⟨rfl, ⟨nd, rfl⟩⟩))
          go_ret
          exact ⟨ret_int (HP.out.trans (by unfold restP; rw [if_neg (by rw [H6.out]; decide)]; rw [if_pos H2.out])).symm, by repeat (first | (with_reducible first | exact HB.out | apply below_alloc | apply pw_below_drewN | apply below_drew1) | exact HB.out)⟩
        | false =>
          have H2 := Aside0.mk h2
          cases h3 : hasB l0 3 with
          | true =>
            have H3 := Aside0.mk h3
            cases h1 : hasB l0 1 with
            | true =>
              have H1 := Aside0.mk h1
              go_wp2_with (first | (go_at_call 63; refine (HS.out _ _).mono ?_; rintro e w' ⟨rfl, ⟨nd, rfl⟩⟩))
              go_ret
              exact ⟨ret_int (HP.out.trans (by unfold restP; rw [if_neg (by rw [H6.out]; decide)]; rw [if_neg (by rw [H2.out]; decide)]; rw [if_pos H3.out]; rw [if_pos H1.out])).symm, by repeat (first | (with_reducible first | exact HB.out | apply below_alloc | apply pw_below_drewN | apply below_drew1) | exact HB.out)⟩
            | false =>
              have H1 := Aside0.mk h1
              go_wp2_with (first | (go_at_call 63; refine (HS.out _ _).mono ?_; rintro e w' ⟨rfl, ⟨nd, rfl⟩⟩))
              go_ret
              exact ⟨ret_int (HP.out.trans (by unfold restP; rw [if_neg (by rw [H6.out]; decide)]; rw [if_neg (by rw [H2.out]; decide)]; rw [if_pos H3.out]; rw [if_neg (by rw [H1.out]; decide)])).symm, by repeat (first | (with_reducible first | exact HB.out | apply below_alloc | apply pw_below_drewN | apply below_drew1) | exact HB.out)⟩
          | false =>
            have H3 := Aside0.mk h3
            cases h1 : hasB l0 1 with
            | true =>
              have H1 := Aside0.mk h1
              go_wp2_with (first | (go_at_call 63; refine (HS.out _ _).mono ?_; rintro e w' ⟨rfl, ⟨nd, rfl⟩⟩))
              go_ret
              exact ⟨ret_int (HP.out.trans (by unfold restP; rw [if_neg (by rw [H6.out]; decide)]; rw [if_neg (by rw [H2.out]; decide)]; rw [if_neg (by rw [H3.out]; decide)]; rw [if_pos H1.out])).symm, by repeat (first | (with_reducible first | exact HB.out | apply below_alloc | apply pw_below_drewN | apply below_drew1) | exact HB.out)⟩
            | false =>
              have H1 := Aside0.mk h1
              have HP2 := Aside0.mk (HP.out.trans (show restP l0 = (if cntD l0 = 0 then 0 else if cntD l0 = l0.length then 11 else 1) from by unfold restP; rw [if_neg (by rw [H6.out]; decide)]; rw [if_neg (by rw [H2.out]; decide)]; rw [if_neg (by rw [H3.out]; decide)]; rw [if_neg (by rw [H1.out]; decide)]))
              go_wp2_with (first | (go_at_call 63; refine (HS.out _ _).mono ?_; rintro e w' ⟨rfl, ⟨nd, rfl⟩⟩))
              clear h1 h2 h3 h6
              go_loopg [7, 59] (l0.length) (fun kq v7 v59 w' => ∃ x : Int, v59 = .int .i64 x ∧ Aside0 (0 ≤ x ∧ x ≤ (l0.length : Int) ∧ (kq : Int) = l0.length - x) ∧ v7 = .int .i64 (cntD (l0.take x.toNat)) ∧ Drawn0 W1 w')
              case atStart => exact ⟨0, rfl, ⟨by omega, by omega, by omega⟩, by rw [show cntD (l0.take (0 : Int).toNat) = 0 from rfl], by repeat (first | exact Drawn0.refl _ | apply Drawn0.step)⟩
              case round =>
                obtain ⟨x, rfl, HI, rfl, ⟨m2, rfl⟩⟩ := hrel
                by_cases hlt : x < (l0.length : Int)
                · have c3b0 : decide (x < (l0.length : Int)) = true := decide_eq_true hlt
                  have p155 := HI.out.1
                  have q155 := hlt
                  obtain ⟨ad155, e155, hx155_0⟩ := Kd.at_int HC.out x p155 q155
                  cases e155
                  have c4b0 : decide (0 ≤ x) = true := decide_eq_true p155
                  replace p155 := eq_true p155
                  replace q155 := eq_true q155
                  have HLT := Aside0.mk hlt
                  clear hlt
                  have HT := Aside0.mk (cntD_take l0 x HI.out.1 HLT.out)
                  have HE := Aside0.mk (cntD_le (l0.take x.toNat))
                  have HL := Aside0.mk (List.length_take_le' x.toNat l0)
                  obtain ⟨cd, hcd⟩ : ∃ cd, cd = cntD (l0.take x.toNat) := ⟨_, rfl⟩
                  rw [← hcd] at HT HE
                  rw [← hcd]
                  clear hcd
                  by_cases he : rd l0 x = 11
                  · have c6b0 : (rd l0 x == 11) = true := beq_iff_eq.mpr he
                    have HQ := Aside0.mk he
                    clear he
                    go_wp2
                    go_roundg (l0.length - (x + 1)).toNat
                    case measure => have := HLT.out; have := HI.out.2.2; omega
                    case rel => exact ⟨x + 1, by rw [show wrap64 (x + 1) = x + 1 from by have := HI.out.1; have := HLT.out; have := HM.out; unfold wrap64; omega], ⟨by have := HI.out.1; omega, by have := HLT.out; omega, by have := HLT.out; omega⟩, by rw [HT.out, if_pos HQ.out]; rw [show wrap64 (cd + 1) = cd + 1 from by have := HE.out; have := HL.out; have := HM.out; unfold wrap64; omega], by repeat (first | exact Drawn0.refl _ | apply Drawn0.step)⟩
                  · have c6b0 : (rd l0 x == 11) = false := beq_eq_false_iff_ne.mpr he
                    have HQ := Aside0.mk he
                    clear he
                    go_wp2
                    go_roundg (l0.length - (x + 1)).toNat
                    case measure => have := HLT.out; have := HI.out.2.2; omega
                    case rel => exact ⟨x + 1, by rw [show wrap64 (x + 1) = x + 1 from by have := HI.out.1; have := HLT.out; have := HM.out; unfold wrap64; omega], ⟨by have := HI.out.1; omega, by have := HLT.out; omega, by have := HLT.out; omega⟩, by rw [HT.out, if_neg HQ.out]; rw [Int.add_zero], by repeat (first | exact Drawn0.refl _ | apply Drawn0.step)⟩
                · have c3b0 : decide (x < (l0.length : Int)) = false := decide_eq_false hlt
                  have hx : l0.take x.toNat = l0 := List.take_of_length_le (by have := HI.out.1; omega)
                  rw [hx]
                  clear hx hlt
                  obtain ⟨cd, hcd⟩ : ∃ cd, cd = cntD l0 := ⟨_, rfl⟩
                  rw [← hcd] at HP2
                  rw [← hcd]
                  clear hcd
                  by_cases h0 : cd = 0
                  · have c0 : (cd == 0) = true := beq_iff_eq.mpr h0
                    have HQ := Aside0.mk h0
                    clear h0
                    go_wp2
                    go_ret
                    exact ⟨ret_int (HP2.out.trans (if_pos HQ.out)).symm, by repeat (first | (with_reducible first | exact HB.out | apply below_alloc | apply pw_below_drewN | apply below_drew1) | exact HB.out)⟩
                  · have c0 : (cd == 0) = false := beq_eq_false_iff_ne.mpr h0
                    have HQ := Aside0.mk h0
                    clear h0
                    by_cases h1 : cd = (l0.length : Int)
                    · have c1 : (cd == (l0.length : Int)) = true := beq_iff_eq.mpr h1
                      have HQ1 := Aside0.mk h1
                      clear h1
                      go_wp2
                      go_ret
                      exact ⟨ret_int (HP2.out.trans ((if_neg HQ.out).trans (if_pos HQ1.out))).symm, by repeat (first | (with_reducible first | exact HB.out | apply below_alloc | apply pw_below_drewN | apply below_drew1) | exact HB.out)⟩
                    · have c1 : (cd == (l0.length : Int)) = false := beq_eq_false_iff_ne.mpr h1
                      have HQ1 := Aside0.mk h1
                      clear h1
                      go_wp2
                      go_ret
                      exact ⟨ret_int (HP2.out.trans ((if_neg HQ.out).trans (if_neg HQ1.out))).symm, by repeat (first | (with_reducible first | exact HB.out | apply below_alloc | apply pw_below_drewN | apply below_drew1) | exact HB.out)⟩

end Go.Proofs.Ytnlbmhojjjjpdaa.F
