-- written by inject.py (this session's) with the kit's printer. Lean checks it.
import Derived.Test.YtnlbmhojjjjpdaaF0
import Derived.Test.YtnlbmhojjjjpdaaFmalthouseref10Acting
import Derived.Test.YtnlbmhojjjjpdaaFmalthouseref10Done
import Derived.Test.YtnlbmhojjjjpdaaFslicesIndexFuncintint
namespace Go.Proofs.Ytnlbmhojjjjpdaa.F
open Go.RowKit Go.Proofs.YtnlbmhojjjjpdaaW.PrintWords Go.Proofs.YtnlbmhojjjjpdaaW.PrintLast Go.Proofs.YtnlbmhojjjjpdaaW.PrintMore
attribute [local go_sem] max2_int min2_int max_two min_two max_three min_three max_four min_four   -- for this text's walks alone
set_option linter.unusedVariables false
set_option linter.unusedSimpArgs false

/-! ### malthouseref10_Roll: function 36 -/
/-- A number that is no state counts as the first one. -/
def inS (s : Int) : Int := if s < 0 then 0 else if s ≥ 12 then 0 else s
theorem inS_range (s : Int) : 0 ≤ inS s ∧ inS s < 12 := by unfold inS; split <;> (try split) <;> omega
def cntS (l : List Int) (j : Int) : Int := (l.countP (fun x => decide (inS x = j)) : Nat)
def actS (l : List Int) : Int := (l.countP (fun x => actB (inS x)) : Nat)
theorem cntS_le (l : List Int) (j : Int) : 0 ≤ cntS l j ∧ cntS l j ≤ l.length := by unfold cntS; have := List.countP_le_length (p := fun x => decide (inS x = j)) (l := l); omega
theorem actS_le (l : List Int) : 0 ≤ actS l ∧ actS l ≤ l.length := by unfold actS; have := List.countP_le_length (p := fun x => actB (inS x)) (l := l); omega
theorem take_next (l : List Int) (i : Int) (h0 : 0 ≤ i) (h1 : i < (l.length : Int)) : l.take (i + 1).toNat = l.take i.toNat ++ [rd l i] := by
  obtain ⟨n, rfl⟩ := Int.eq_ofNat_of_zero_le h0
  have hn : n < l.length := by omega
  rw [rd_get l n hn, show ((n : Int) + 1).toNat = n + 1 from by omega, show ((n : Int)).toNat = n from by omega, List.take_succ_eq_append_getElem hn]
theorem cntS_snoc (l : List Int) (x j : Int) : cntS (l ++ [x]) j = cntS l j + (if inS x = j then 1 else 0) := by
  unfold cntS; rw [List.countP_append]; by_cases h : inS x = j <;> simp [List.countP_cons, h]
theorem actS_snoc (l : List Int) (x : Int) : actS (l ++ [x]) = actS l + (if actB (inS x) = true then 1 else 0) := by
  unfold actS; rw [List.countP_append]; by_cases h : actB (inS x) = true <;> simp [List.countP_cons, h]
def refRollP (l : List Int) : Int :=
  if (l.length : Int) = 0 then 0 else
  if cntS l 9 > 0 then 9 else if cntS l 10 > 0 then (if actS l > 0 then 9 else 10) else
  if cntS l 7 > 0 then 7 else if cntS l 8 > 0 then (if actS l > 0 then 7 else 8) else
  if cntS l 4 > 0 then 4 else if cntS l 5 > 0 then (if actS l > 0 then 4 else 5) else
  if cntS l 6 > 0 then 6 else if cntS l 2 > 0 then 2 else if cntS l 3 > 0 then (if cntS l 1 > 0 then 2 else 3) else if cntS l 1 > 0 then 1 else
  if cntS l 11 = l.length then 11 else if cntS l 0 = l.length then 0 else 1
def malthouseref10_Roll.f (l0 : List Int) : Option (Int) := if l0.length < 4611686018427387904 then some (refRollP l0) else none
/-- The twelve counts, as the array holds them. -/
def CntRow (l cs : List Int) : Prop := cs.length = 12 ∧ ∀ j : Int, 0 ≤ j → j < 12 → rd cs j = cntS l j
theorem CntRow_nil : CntRow [] [0, 0, 0, 0, 0, 0, 0, 0, 0, 0, 0, 0] := by
  refine ⟨rfl, fun j h0 h1 => ?_⟩
  have : j = 0 ∨ j = 1 ∨ j = 2 ∨ j = 3 ∨ j = 4 ∨ j = 5 ∨ j = 6 ∨ j = 7 ∨ j = 8 ∨ j = 9 ∨ j = 10 ∨ j = 11 := by omega
  rcases this with rfl | rfl | rfl | rfl | rfl | rfl | rfl | rfl | rfl | rfl | rfl | rfl <;> rfl
theorem CntRow_set {l cs : List Int} (h : CntRow l cs) (s : Int) : CntRow (l ++ [s]) (cs.set (inS s).toNat (rd cs (inS s) + 1)) := by
  have hr := inS_range s
  refine ⟨by rw [List.length_set]; exact h.1, fun j h0 h1 => ?_⟩
  rw [cntS_snoc, ← h.2 j h0 h1]
  have hlen := h.1
  unfold rd
  by_cases he : inS s = j
  · subst he
    rw [if_pos rfl, List.getD_eq_getElem?_getD, List.getElem?_set_self (by omega)]; rfl
  · rw [if_neg he, Int.add_zero]
    simp only [List.getD_eq_getElem?_getD]
    rw [List.getElem?_set_ne (by omega)]
theorem nums_set (cs : List Int) (i : Nat) (v : Int) : (nums .i64 cs).toArray.setIfInBounds i (.int .i64 v) = (nums .i64 (cs.set i v)).toArray := by
  simp [nums, List.map_set]
theorem nums_at (cs : List Int) (hc : cs.length = 12) (i : Nat) (hi : i < 12) : (nums .i64 cs).toArray[i]? = some (.int .i64 (rd cs (i : Int))) := by
  have : i < cs.length := by omega
  simp [nums, rd, this]
theorem refActing_b (x : Int) : malthouseref10_Acting.f x = some (actB x) := by
  unfold malthouseref10_Acting.f malthouseref10_Done.f actB
  by_cases h1 : x = 1 <;> by_cases h6 : x = 6 <;> by_cases h2 : x = 2 <;> by_cases h4 : x = 4 <;> by_cases h7 : x = 7 <;> by_cases h9 : x = 9 <;> simp_all
set_option maxHeartbeats 8000000 in
set_option maxRecDepth 100000 in
theorem malthouseref10_Roll.calls (A0 : Option Addr) (c0 : Nat) (l0 : List Int) (r : Int) (w : World) (hr0 : Kd.C (Kd.int .i64) w A0 l0.length l0) (hc0 : l0.length ≤ c0) (h : malthouseref10_Roll.f l0 = some r) :
    Calls Try.prog 36 #[.slice A0 l0.length c0] w fun e w' => e = .returned (.int .i64 r) ∧ Below w.heap.size w w' := by
  have hm : l0.length < 4611686018427387904 := by unfold malthouseref10_Roll.f at h; split at h <;> simp_all
  obtain rfl : refRollP l0 = r := by unfold malthouseref10_Roll.f at h; rw [if_pos hm] at h; exact (Option.some.inj h)
  clear h
  go_enter Try.func36, Try.ntmps36
  go_wp2_with (fail)
  obtain ⟨W0, hW0⟩ : ∃ W0, W0 = w.alloc (Obj.cells #[Value.int IntKind.i64 0, Value.int IntKind.i64 0, Value.int IntKind.i64 0, Value.int IntKind.i64 0, Value.int IntKind.i64 0, Value.int IntKind.i64 0, Value.int IntKind.i64 0, Value.int IntKind.i64 0, Value.int IntKind.i64 0, Value.int IntKind.i64 0, Value.int IntKind.i64 0, Value.int IntKind.i64 0] 76) := ⟨_, rfl⟩
  rw [← hW0]
  have hB0 : Below w.heap.size w W0 := by rw [hW0]; exact below_alloc (Below.refl _ w) _
  have hb0 : W0.heap[w.heap.size]? = some (.cells (nums .i64 [0, 0, 0, 0, 0, 0, 0, 0, 0, 0, 0, 0]).toArray 76 (0, 0)) := by rw [hW0]; exact heap_alloc_new w _
  clear hW0
  have HB0 := Aside0.mk hB0
  have HM := Aside0.mk hm
  have HR0 := Aside0.mk hr0
  have HC0 := Aside0.mk hc0
  have Hb0 := Aside0.mk hb0
  clear hB0 hb0 hm hr0 hc0
  go_loopg [4, 5] l0.length (fun kq v4 v5 w' => ∃ (x : Int) (cs : List Int), v5 = .int .i64 x ∧ v4 = .int .i64 (actS (l0.take x.toNat)) ∧ Aside0 (0 ≤ x ∧ x ≤ (l0.length : Int) ∧ (kq : Int) = l0.length - x) ∧ Aside0 (CntRow (l0.take x.toNat) cs) ∧ Aside0 (w'.heap[w.heap.size]? = some (.cells (nums .i64 cs).toArray 76 (0, 0))) ∧ Aside0 (Below w.heap.size w w'))
  case atStart => exact ⟨0, [0, 0, 0, 0, 0, 0, 0, 0, 0, 0, 0, 0], rfl, rfl, ⟨by omega, by omega, by omega⟩, ⟨CntRow_nil⟩, Hb0, HB0⟩
  case round =>
    clear Hb0 HB0
    obtain ⟨x, cs, rfl, rfl, HI, HCR, Hb, HB⟩ := hrel
    by_cases hlt : x < (l0.length : Int)
    · have c3b0 : decide (x < (l0.length : Int)) = true := decide_eq_true hlt
      have p155 := HI.out.1
      have q155 := hlt
      obtain ⟨ad155, e155, hx155⟩ := Kd.at_int HR0.out x p155 q155
      have hx155_0 := pw_cell_below HB.out hx155
      clear hx155
      cases e155
      have c4b0 : decide (0 ≤ x) = true := decide_eq_true p155
      replace p155 := eq_true p155
      replace q155 := eq_true q155
      have HLT := Aside0.mk hlt
      clear hlt
      have HTK := Aside0.mk (take_next l0 x HI.out.1 HLT.out)
      obtain ⟨s, hs⟩ : ∃ s, s = rd l0 x := ⟨_, rfl⟩
      rw [← hs] at HTK hx155_0
      clear hs
      have hsr := inS_range s
      have hct := HCR.out.1
      have hcl := cntS_le (l0.take x.toNat) (inS s)
      have htl := List.length_take_le' x.toNat l0
      have hrc := HCR.out.2 (inS s) hsr.1 hsr.2
      have hal := actS_le (l0.take x.toNat)
      have Hac := Aside0.mk (actS_snoc (l0.take x.toNat) s)
      obtain ⟨a4, ha4⟩ : ∃ a, a = actS (l0.take x.toNat) := ⟨_, rfl⟩
      rw [← ha4] at Hac hal
      rw [← ha4]
      have HAL := Aside0.mk hal
      have HM2 := Aside0.mk htl
      clear ha4 hal
      have Hset := Aside0.mk (CntRow_set HCR.out s)
      have hcell : wr.cell? ⟨w.heap.size, (inS s).toNat, none⟩ = some (.int .i64 (rd cs (inS s))) := (blk_cell Hb.out (inS s).toNat).trans ((nums_at cs hct (inS s).toNat (by omega)).trans (by rw [Int.toNat_of_nonneg hsr.1]))
      have hfr : wr.frozen? ⟨w.heap.size, (inS s).toNat, none⟩ = false := blk_frozen Hb.out _
      have hlo : -1 ≤ rd cs (inS s) := by omega
      have hhi : rd cs (inS s) ≤ 4611686018427387904 := by have := HM.out; omega
      have Hst := Aside0.mk (blk_set Hb.out (inS s).toNat (.int .i64 (rd cs (inS s) + 1)))
      rw [nums_set] at Hst
      have HBs := Aside0.mk (HB.out.setCell (p := ⟨w.heap.size, (inS s).toNat, none⟩) (Nat.le_refl _) (.int .i64 (rd cs (inS s) + 1)))
      obtain ⟨cv, hcv⟩ : ∃ cv, cv = rd cs (inS s) := ⟨_, rfl⟩
      rw [← hcv] at hcell hlo hhi Hset Hst HBs
      clear hcv hrc hcl hct HCR Hb HB htl
      have hwc : wrap64 (cv + 1) = cv + 1 := by unfold wrap64; omega
      have A2 := Aside0.mk (refActing_b (inS s))
      have hT : ∀ b, actB (inS s) = b → actB (inS s) = b := fun _ h => h
      rcases (show s < 0 ∨ 12 ≤ s ∨ (0 ≤ s ∧ s < 12) by omega) with hs | hs | hs
      · have hs0 : decide (s < 0) = true := decide_eq_true hs
        have hi0 : inS s = 0 := by unfold inS; rw [if_pos hs]
        rw [hi0] at hcell hfr Hset Hst HBs A2 hT Hac
        simp only [Int.toNat_zero] at hcell hfr Hset Hst HBs
        clear hs hi0 hsr
        cases hb : actB 0 with
        | true =>
          rw [hb] at A2
          have HBB := Aside0.mk hb
          clear hb hT
          go_wp2_with (first | (go_at_call 48; refine (malthouseref10_Acting.calls _ true _ A2.out).mono ?_; rintro e w' ⟨rfl, ⟨nd, rfl⟩⟩))
          go_roundg (l0.length - (x + 1)).toNat
          case measure => have := HLT.out; have := HI.out.2.2; omega
          case rel => exact ⟨x + 1, _, by rw [show wrap64 (x + 1) = x + 1 from by have := HI.out.1; have := HLT.out; have := HM.out; unfold wrap64; omega], by rw [HTK.out, Hac.out, HBB.out]; rw [if_pos rfl, show wrap64 (a4 + 1) = a4 + 1 from by have := HAL.out; have := HM2.out; have := HM.out; unfold wrap64; omega], ⟨by have := HI.out.1; omega, by have := HLT.out; omega, by have := HLT.out; omega⟩, ⟨by rw [HTK.out]; exact Hset.out⟩, ⟨Hst.out⟩, ⟨by repeat (first | exact HBs.out | apply pw_below_drewN)⟩⟩
        | false =>
          rw [hb] at A2
          have HBB := Aside0.mk hb
          clear hb hT
          go_wp2_with (first | (go_at_call 48; refine (malthouseref10_Acting.calls _ false _ A2.out).mono ?_; rintro e w' ⟨rfl, ⟨nd, rfl⟩⟩))
          go_roundg (l0.length - (x + 1)).toNat
          case measure => have := HLT.out; have := HI.out.2.2; omega
          case rel => exact ⟨x + 1, _, by rw [show wrap64 (x + 1) = x + 1 from by have := HI.out.1; have := HLT.out; have := HM.out; unfold wrap64; omega], by rw [HTK.out, Hac.out, HBB.out]; rw [if_neg (by decide), Int.add_zero], ⟨by have := HI.out.1; omega, by have := HLT.out; omega, by have := HLT.out; omega⟩, ⟨by rw [HTK.out]; exact Hset.out⟩, ⟨Hst.out⟩, ⟨by repeat (first | exact HBs.out | apply pw_below_drewN)⟩⟩
      · have hs0 : decide (s < 0) = false := decide_eq_false (by omega)
        have hs1 : decide (12 ≤ s) = true := decide_eq_true hs
        have hi0 : inS s = 0 := by unfold inS; rw [if_neg (by omega), if_pos hs]
        rw [hi0] at hcell hfr Hset Hst HBs A2 hT Hac
        simp only [Int.toNat_zero] at hcell hfr Hset Hst HBs
        clear hs hi0 hsr
        cases hb : actB 0 with
        | true =>
          rw [hb] at A2
          have HBB := Aside0.mk hb
          clear hb hT
          go_wp2_with (first | (go_at_call 48; refine (malthouseref10_Acting.calls _ true _ A2.out).mono ?_; rintro e w' ⟨rfl, ⟨nd, rfl⟩⟩))
          go_roundg (l0.length - (x + 1)).toNat
          case measure => have := HLT.out; have := HI.out.2.2; omega
          case rel => exact ⟨x + 1, _, by rw [show wrap64 (x + 1) = x + 1 from by have := HI.out.1; have := HLT.out; have := HM.out; unfold wrap64; omega], by rw [HTK.out, Hac.out, HBB.out]; rw [if_pos rfl, show wrap64 (a4 + 1) = a4 + 1 from by have := HAL.out; have := HM2.out; have := HM.out; unfold wrap64; omega], ⟨by have := HI.out.1; omega, by have := HLT.out; omega, by have := HLT.out; omega⟩, ⟨by rw [HTK.out]; exact Hset.out⟩, ⟨Hst.out⟩, ⟨by repeat (first | exact HBs.out | apply pw_below_drewN)⟩⟩
        | false =>
          rw [hb] at A2
          have HBB := Aside0.mk hb
          clear hb hT
          go_wp2_with (first | (go_at_call 48; refine (malthouseref10_Acting.calls _ false _ A2.out).mono ?_; rintro e w' ⟨rfl, ⟨nd, rfl⟩⟩))
          go_roundg (l0.length - (x + 1)).toNat
          case measure => have := HLT.out; have := HI.out.2.2; omega
          case rel => exact ⟨x + 1, _, by rw [show wrap64 (x + 1) = x + 1 from by have := HI.out.1; have := HLT.out; have := HM.out; unfold wrap64; omega], by rw [HTK.out, Hac.out, HBB.out]; rw [if_neg (by decide), Int.add_zero], ⟨by have := HI.out.1; omega, by have := HLT.out; omega, by have := HLT.out; omega⟩, ⟨by rw [HTK.out]; exact Hset.out⟩, ⟨Hst.out⟩, ⟨by repeat (first | exact HBs.out | apply pw_below_drewN)⟩⟩
      · have hs0 : decide (s < 0) = false := decide_eq_false (by omega)
        have hs1 : decide (12 ≤ s) = false := decide_eq_false (by omega)
        have hi0 : inS s = s := by unfold inS; rw [if_neg (by omega), if_neg (by omega)]
        have hs2 : decide (0 ≤ s) = true := decide_eq_true hs.1
        have hs3 : decide (s < 12) = true := decide_eq_true hs.2
        have hp0 := hs.1
        have hp1 := hs.2
        rw [hi0] at hcell hfr Hset Hst HBs A2 hT Hac
        clear hs hi0 hsr
        cases hb : actB s with
        | true =>
          rw [hb] at A2
          have HBB := Aside0.mk hb
          clear hb hT
          go_wp2_with (first | (go_at_call 48; refine (malthouseref10_Acting.calls _ true _ A2.out).mono ?_; rintro e w' ⟨rfl, ⟨nd, rfl⟩⟩))
          go_roundg (l0.length - (x + 1)).toNat
          case measure => have := HLT.out; have := HI.out.2.2; omega
          case rel => exact ⟨x + 1, _, by rw [show wrap64 (x + 1) = x + 1 from by have := HI.out.1; have := HLT.out; have := HM.out; unfold wrap64; omega], by rw [HTK.out, Hac.out, HBB.out]; rw [if_pos rfl, show wrap64 (a4 + 1) = a4 + 1 from by have := HAL.out; have := HM2.out; have := HM.out; unfold wrap64; omega], ⟨by have := HI.out.1; omega, by have := HLT.out; omega, by have := HLT.out; omega⟩, ⟨by rw [HTK.out]; exact Hset.out⟩, ⟨Hst.out⟩, ⟨by repeat (first | exact HBs.out | apply pw_below_drewN)⟩⟩
        | false =>
          rw [hb] at A2
          have HBB := Aside0.mk hb
          clear hb hT
          go_wp2_with (first | (go_at_call 48; refine (malthouseref10_Acting.calls _ false _ A2.out).mono ?_; rintro e w' ⟨rfl, ⟨nd, rfl⟩⟩))
          go_roundg (l0.length - (x + 1)).toNat
          case measure => have := HLT.out; have := HI.out.2.2; omega
          case rel => exact ⟨x + 1, _, by rw [show wrap64 (x + 1) = x + 1 from by have := HI.out.1; have := HLT.out; have := HM.out; unfold wrap64; omega], by rw [HTK.out, Hac.out, HBB.out]; rw [if_neg (by decide), Int.add_zero], ⟨by have := HI.out.1; omega, by have := HLT.out; omega, by have := HLT.out; omega⟩, ⟨by rw [HTK.out]; exact Hset.out⟩, ⟨Hst.out⟩, ⟨by repeat (first | exact HBs.out | apply pw_below_drewN)⟩⟩
    · have c3b0 : decide (x < (l0.length : Int)) = false := decide_eq_false hlt
      have hx : l0.take x.toNat = l0 := List.take_of_length_le (by have := HI.out.1; omega)
      rw [hx] at HCR
      rw [hx]
      clear hx hlt
      have hct := HCR.out.1
      have q0 : wr.cell? ⟨w.heap.size, 0, none⟩ = some (.int .i64 (cntS l0 0)) := (blk_cell Hb.out 0).trans ((nums_at cs hct 0 (by omega)).trans (by rw [show ((0 : Nat) : Int) = 0 from rfl, HCR.out.2 0 (by omega) (by omega)]))
      have q1 : wr.cell? ⟨w.heap.size, 1, none⟩ = some (.int .i64 (cntS l0 1)) := (blk_cell Hb.out 1).trans ((nums_at cs hct 1 (by omega)).trans (by rw [show ((1 : Nat) : Int) = 1 from rfl, HCR.out.2 1 (by omega) (by omega)]))
      have q2 : wr.cell? ⟨w.heap.size, 2, none⟩ = some (.int .i64 (cntS l0 2)) := (blk_cell Hb.out 2).trans ((nums_at cs hct 2 (by omega)).trans (by rw [show ((2 : Nat) : Int) = 2 from rfl, HCR.out.2 2 (by omega) (by omega)]))
      have q3 : wr.cell? ⟨w.heap.size, 3, none⟩ = some (.int .i64 (cntS l0 3)) := (blk_cell Hb.out 3).trans ((nums_at cs hct 3 (by omega)).trans (by rw [show ((3 : Nat) : Int) = 3 from rfl, HCR.out.2 3 (by omega) (by omega)]))
      have q4 : wr.cell? ⟨w.heap.size, 4, none⟩ = some (.int .i64 (cntS l0 4)) := (blk_cell Hb.out 4).trans ((nums_at cs hct 4 (by omega)).trans (by rw [show ((4 : Nat) : Int) = 4 from rfl, HCR.out.2 4 (by omega) (by omega)]))
      have q5 : wr.cell? ⟨w.heap.size, 5, none⟩ = some (.int .i64 (cntS l0 5)) := (blk_cell Hb.out 5).trans ((nums_at cs hct 5 (by omega)).trans (by rw [show ((5 : Nat) : Int) = 5 from rfl, HCR.out.2 5 (by omega) (by omega)]))
      have q6 : wr.cell? ⟨w.heap.size, 6, none⟩ = some (.int .i64 (cntS l0 6)) := (blk_cell Hb.out 6).trans ((nums_at cs hct 6 (by omega)).trans (by rw [show ((6 : Nat) : Int) = 6 from rfl, HCR.out.2 6 (by omega) (by omega)]))
      have q7 : wr.cell? ⟨w.heap.size, 7, none⟩ = some (.int .i64 (cntS l0 7)) := (blk_cell Hb.out 7).trans ((nums_at cs hct 7 (by omega)).trans (by rw [show ((7 : Nat) : Int) = 7 from rfl, HCR.out.2 7 (by omega) (by omega)]))
      have q8 : wr.cell? ⟨w.heap.size, 8, none⟩ = some (.int .i64 (cntS l0 8)) := (blk_cell Hb.out 8).trans ((nums_at cs hct 8 (by omega)).trans (by rw [show ((8 : Nat) : Int) = 8 from rfl, HCR.out.2 8 (by omega) (by omega)]))
      have q9 : wr.cell? ⟨w.heap.size, 9, none⟩ = some (.int .i64 (cntS l0 9)) := (blk_cell Hb.out 9).trans ((nums_at cs hct 9 (by omega)).trans (by rw [show ((9 : Nat) : Int) = 9 from rfl, HCR.out.2 9 (by omega) (by omega)]))
      have q10 : wr.cell? ⟨w.heap.size, 10, none⟩ = some (.int .i64 (cntS l0 10)) := (blk_cell Hb.out 10).trans ((nums_at cs hct 10 (by omega)).trans (by rw [show ((10 : Nat) : Int) = 10 from rfl, HCR.out.2 10 (by omega) (by omega)]))
      have q11 : wr.cell? ⟨w.heap.size, 11, none⟩ = some (.int .i64 (cntS l0 11)) := (blk_cell Hb.out 11).trans ((nums_at cs hct 11 (by omega)).trans (by rw [show ((11 : Nat) : Int) = 11 from rfl, HCR.out.2 11 (by omega) (by omega)]))
      have HE := Aside0.mk (show refRollP l0 = refRollP l0 from rfl)
      conv at HE => arg 1; rhs; unfold refRollP
      generalize actS l0 = a at HE ⊢
      generalize cntS l0 0 = c0 at q0 HE
      generalize cntS l0 1 = c1 at q1 HE
      generalize cntS l0 2 = c2 at q2 HE
      generalize cntS l0 3 = c3 at q3 HE
      generalize cntS l0 4 = c4 at q4 HE
      generalize cntS l0 5 = c5 at q5 HE
      generalize cntS l0 6 = c6 at q6 HE
      generalize cntS l0 7 = c7 at q7 HE
      generalize cntS l0 8 = c8 at q8 HE
      generalize cntS l0 9 = c9 at q9 HE
      generalize cntS l0 10 = c10 at q10 HE
      generalize cntS l0 11 = c11 at q11 HE
      clear hct HCR Hb
      by_cases t1 : (l0.length : Int) = 0
      · have t1b : ((l0.length : Int) == 0) = true := beq_iff_eq.mpr t1
        have Ht1 := Aside0.mk t1
        clear t1
        go_wp2
        go_ret
        exact ⟨ret_int (HE.out.trans (by rw [if_pos (by have := Ht1.out; omega)])).symm, by repeat (first | (with_reducible first | exact HB.out | apply below_alloc | apply pw_below_drewN | apply below_drew1) | exact HB.out)⟩
      · have t1b : ((l0.length : Int) == 0) = false := beq_eq_false_iff_ne.mpr t1
        have Ht1 := Aside0.mk t1
        clear t1
        by_cases t2 : c9 > 0
        · have t2b : decide (0 < c9) = true := decide_eq_true t2
          have Ht2 := Aside0.mk t2
          clear t2
          go_wp2
          go_ret
          exact ⟨ret_int (HE.out.trans (by rw [if_neg (by have := Ht1.out; omega)]; rw [if_pos (by have := Ht2.out; omega)])).symm, by repeat (first | (with_reducible first | exact HB.out | apply below_alloc | apply pw_below_drewN | apply below_drew1) | exact HB.out)⟩
        · have t2b : decide (0 < c9) = false := decide_eq_false t2
          have Ht2 := Aside0.mk t2
          clear t2
          by_cases t3 : c10 > 0
          · have t3b : decide (0 < c10) = true := decide_eq_true t3
            have Ht3 := Aside0.mk t3
            clear t3
            by_cases t4 : a > 0
            · have t4b : decide (0 < a) = true := decide_eq_true t4
              have Ht4 := Aside0.mk t4
              clear t4
              go_wp2
              go_ret
              exact ⟨ret_int (HE.out.trans (by rw [if_neg (by have := Ht1.out; omega)]; rw [if_neg (by have := Ht2.out; omega)]; rw [if_pos (by have := Ht3.out; omega)]; rw [if_pos (by have := Ht4.out; omega)])).symm, by repeat (first | (with_reducible first | exact HB.out | apply below_alloc | apply pw_below_drewN | apply below_drew1) | exact HB.out)⟩
            · have t4b : decide (0 < a) = false := decide_eq_false t4
              have Ht4 := Aside0.mk t4
              clear t4
              go_wp2
              go_ret
              exact ⟨ret_int (HE.out.trans (by rw [if_neg (by have := Ht1.out; omega)]; rw [if_neg (by have := Ht2.out; omega)]; rw [if_pos (by have := Ht3.out; omega)]; rw [if_neg (by have := Ht4.out; omega)])).symm, by repeat (first | (with_reducible first | exact HB.out | apply below_alloc | apply pw_below_drewN | apply below_drew1) | exact HB.out)⟩
          · have t3b : decide (0 < c10) = false := decide_eq_false t3
            have Ht3 := Aside0.mk t3
            clear t3
            by_cases t5 : c7 > 0
            · have t5b : decide (0 < c7) = true := decide_eq_true t5
              have Ht5 := Aside0.mk t5
              clear t5
              go_wp2
              go_ret
              exact ⟨ret_int (HE.out.trans (by rw [if_neg (by have := Ht1.out; omega)]; rw [if_neg (by have := Ht2.out; omega)]; rw [if_neg (by have := Ht3.out; omega)]; rw [if_pos (by have := Ht5.out; omega)])).symm, by repeat (first | (with_reducible first | exact HB.out | apply below_alloc | apply pw_below_drewN | apply below_drew1) | exact HB.out)⟩
            · have t5b : decide (0 < c7) = false := decide_eq_false t5
              have Ht5 := Aside0.mk t5
              clear t5
              by_cases t6 : c8 > 0
              · have t6b : decide (0 < c8) = true := decide_eq_true t6
                have Ht6 := Aside0.mk t6
                clear t6
                by_cases t7 : a > 0
                · have t7b : decide (0 < a) = true := decide_eq_true t7
                  have Ht7 := Aside0.mk t7
                  clear t7
                  go_wp2
                  go_ret
                  exact ⟨ret_int (HE.out.trans (by rw [if_neg (by have := Ht1.out; omega)]; rw [if_neg (by have := Ht2.out; omega)]; rw [if_neg (by have := Ht3.out; omega)]; rw [if_neg (by have := Ht5.out; omega)]; rw [if_pos (by have := Ht6.out; omega)]; rw [if_pos (by have := Ht7.out; omega)])).symm, by repeat (first | (with_reducible first | exact HB.out | apply below_alloc | apply pw_below_drewN | apply below_drew1) | exact HB.out)⟩
                · have t7b : decide (0 < a) = false := decide_eq_false t7
                  have Ht7 := Aside0.mk t7
                  clear t7
                  go_wp2
                  go_ret
                  exact ⟨ret_int (HE.out.trans (by rw [if_neg (by have := Ht1.out; omega)]; rw [if_neg (by have := Ht2.out; omega)]; rw [if_neg (by have := Ht3.out; omega)]; rw [if_neg (by have := Ht5.out; omega)]; rw [if_pos (by have := Ht6.out; omega)]; rw [if_neg (by have := Ht7.out; omega)])).symm, by repeat (first | (with_reducible first | exact HB.out | apply below_alloc | apply pw_below_drewN | apply below_drew1) | exact HB.out)⟩
              · have t6b : decide (0 < c8) = false := decide_eq_false t6
                have Ht6 := Aside0.mk t6
                clear t6
                by_cases t8 : c4 > 0
                · have t8b : decide (0 < c4) = true := decide_eq_true t8
                  have Ht8 := Aside0.mk t8
                  clear t8
                  go_wp2
                  go_ret
                  exact ⟨ret_int (HE.out.trans (by rw [if_neg (by have := Ht1.out; omega)]; rw [if_neg (by have := Ht2.out; omega)]; rw [if_neg (by have := Ht3.out; omega)]; rw [if_neg (by have := Ht5.out; omega)]; rw [if_neg (by have := Ht6.out; omega)]; rw [if_pos (by have := Ht8.out; omega)])).symm, by repeat (first | (with_reducible first | exact HB.out | apply below_alloc | apply pw_below_drewN | apply below_drew1) | exact HB.out)⟩
                · have t8b : decide (0 < c4) = false := decide_eq_false t8
                  have Ht8 := Aside0.mk t8
                  clear t8
                  by_cases t9 : c5 > 0
                  · have t9b : decide (0 < c5) = true := decide_eq_true t9
                    have Ht9 := Aside0.mk t9
                    clear t9
                    by_cases t10 : a > 0
                    · have t10b : decide (0 < a) = true := decide_eq_true t10
                      have Ht10 := Aside0.mk t10
                      clear t10
                      go_wp2
                      go_ret
                      exact ⟨ret_int (HE.out.trans (by rw [if_neg (by have := Ht1.out; omega)]; rw [if_neg (by have := Ht2.out; omega)]; rw [if_neg (by have := Ht3.out; omega)]; rw [if_neg (by have := Ht5.out; omega)]; rw [if_neg (by have := Ht6.out; omega)]; rw [if_neg (by have := Ht8.out; omega)]; rw [if_pos (by have := Ht9.out; omega)]; rw [if_pos (by have := Ht10.out; omega)])).symm, by repeat (first | (with_reducible first | exact HB.out | apply below_alloc | apply pw_below_drewN | apply below_drew1) | exact HB.out)⟩
                    · have t10b : decide (0 < a) = false := decide_eq_false t10
                      have Ht10 := Aside0.mk t10
                      clear t10
                      go_wp2
                      go_ret
                      exact ⟨ret_int (HE.out.trans (by rw [if_neg (by have := Ht1.out; omega)]; rw [if_neg (by have := Ht2.out; omega)]; rw [if_neg (by have := Ht3.out; omega)]; rw [if_neg (by have := Ht5.out; omega)]; rw [if_neg (by have := Ht6.out; omega)]; rw [if_neg (by have := Ht8.out; omega)]; rw [if_pos (by have := Ht9.out; omega)]; rw [if_neg (by have := Ht10.out; omega)])).symm, by repeat (first | (with_reducible first | exact HB.out | apply below_alloc | apply pw_below_drewN | apply below_drew1) | exact HB.out)⟩
                  · have t9b : decide (0 < c5) = false := decide_eq_false t9
                    have Ht9 := Aside0.mk t9
                    clear t9
                    by_cases t11 : c6 > 0
                    · have t11b : decide (0 < c6) = true := decide_eq_true t11
                      have Ht11 := Aside0.mk t11
                      clear t11
                      go_wp2
                      go_ret
                      exact ⟨ret_int (HE.out.trans (by rw [if_neg (by have := Ht1.out; omega)]; rw [if_neg (by have := Ht2.out; omega)]; rw [if_neg (by have := Ht3.out; omega)]; rw [if_neg (by have := Ht5.out; omega)]; rw [if_neg (by have := Ht6.out; omega)]; rw [if_neg (by have := Ht8.out; omega)]; rw [if_neg (by have := Ht9.out; omega)]; rw [if_pos (by have := Ht11.out; omega)])).symm, by repeat (first | (with_reducible first | exact HB.out | apply below_alloc | apply pw_below_drewN | apply below_drew1) | exact HB.out)⟩
                    · have t11b : decide (0 < c6) = false := decide_eq_false t11
                      have Ht11 := Aside0.mk t11
                      clear t11
                      by_cases t12 : c2 > 0
                      · have t12b : decide (0 < c2) = true := decide_eq_true t12
                        have Ht12 := Aside0.mk t12
                        clear t12
                        go_wp2
                        go_ret
                        exact ⟨ret_int (HE.out.trans (by rw [if_neg (by have := Ht1.out; omega)]; rw [if_neg (by have := Ht2.out; omega)]; rw [if_neg (by have := Ht3.out; omega)]; rw [if_neg (by have := Ht5.out; omega)]; rw [if_neg (by have := Ht6.out; omega)]; rw [if_neg (by have := Ht8.out; omega)]; rw [if_neg (by have := Ht9.out; omega)]; rw [if_neg (by have := Ht11.out; omega)]; rw [if_pos (by have := Ht12.out; omega)])).symm, by repeat (first | (with_reducible first | exact HB.out | apply below_alloc | apply pw_below_drewN | apply below_drew1) | exact HB.out)⟩
                      · have t12b : decide (0 < c2) = false := decide_eq_false t12
                        have Ht12 := Aside0.mk t12
                        clear t12
                        by_cases t13 : c3 > 0
                        · have t13b : decide (0 < c3) = true := decide_eq_true t13
                          have Ht13 := Aside0.mk t13
                          clear t13
                          by_cases t14 : c1 > 0
                          · have t14b : decide (0 < c1) = true := decide_eq_true t14
                            have Ht14 := Aside0.mk t14
                            clear t14
                            go_wp2
                            go_ret
                            exact ⟨ret_int (HE.out.trans (by rw [if_neg (by have := Ht1.out; omega)]; rw [if_neg (by have := Ht2.out; omega)]; rw [if_neg (by have := Ht3.out; omega)]; rw [if_neg (by have := Ht5.out; omega)]; rw [if_neg (by have := Ht6.out; omega)]; rw [if_neg (by have := Ht8.out; omega)]; rw [if_neg (by have := Ht9.out; omega)]; rw [if_neg (by have := Ht11.out; omega)]; rw [if_neg (by have := Ht12.out; omega)]; rw [if_pos (by have := Ht13.out; omega)]; rw [if_pos (by have := Ht14.out; omega)])).symm, by repeat (first | (with_reducible first | exact HB.out | apply below_alloc | apply pw_below_drewN | apply below_drew1) | exact HB.out)⟩
                          · have t14b : decide (0 < c1) = false := decide_eq_false t14
                            have Ht14 := Aside0.mk t14
                            clear t14
                            go_wp2
                            go_ret
                            exact ⟨ret_int (HE.out.trans (by rw [if_neg (by have := Ht1.out; omega)]; rw [if_neg (by have := Ht2.out; omega)]; rw [if_neg (by have := Ht3.out; omega)]; rw [if_neg (by have := Ht5.out; omega)]; rw [if_neg (by have := Ht6.out; omega)]; rw [if_neg (by have := Ht8.out; omega)]; rw [if_neg (by have := Ht9.out; omega)]; rw [if_neg (by have := Ht11.out; omega)]; rw [if_neg (by have := Ht12.out; omega)]; rw [if_pos (by have := Ht13.out; omega)]; rw [if_neg (by have := Ht14.out; omega)])).symm, by repeat (first | (with_reducible first | exact HB.out | apply below_alloc | apply pw_below_drewN | apply below_drew1) | exact HB.out)⟩
                        · have t13b : decide (0 < c3) = false := decide_eq_false t13
                          have Ht13 := Aside0.mk t13
                          clear t13
                          by_cases t15 : c1 > 0
                          · have t15b : decide (0 < c1) = true := decide_eq_true t15
                            have Ht15 := Aside0.mk t15
                            clear t15
                            go_wp2
                            go_ret
                            exact ⟨ret_int (HE.out.trans (by rw [if_neg (by have := Ht1.out; omega)]; rw [if_neg (by have := Ht2.out; omega)]; rw [if_neg (by have := Ht3.out; omega)]; rw [if_neg (by have := Ht5.out; omega)]; rw [if_neg (by have := Ht6.out; omega)]; rw [if_neg (by have := Ht8.out; omega)]; rw [if_neg (by have := Ht9.out; omega)]; rw [if_neg (by have := Ht11.out; omega)]; rw [if_neg (by have := Ht12.out; omega)]; rw [if_neg (by have := Ht13.out; omega)]; rw [if_pos (by have := Ht15.out; omega)])).symm, by repeat (first | (with_reducible first | exact HB.out | apply below_alloc | apply pw_below_drewN | apply below_drew1) | exact HB.out)⟩
                          · have t15b : decide (0 < c1) = false := decide_eq_false t15
                            have Ht15 := Aside0.mk t15
                            clear t15
                            by_cases t16 : c11 = (l0.length : Int)
                            · have t16b : (c11 == (l0.length : Int)) = true := beq_iff_eq.mpr t16
                              have Ht16 := Aside0.mk t16
                              clear t16
                              go_wp2
                              go_ret
                              exact ⟨ret_int (HE.out.trans (by rw [if_neg (by have := Ht1.out; omega)]; rw [if_neg (by have := Ht2.out; omega)]; rw [if_neg (by have := Ht3.out; omega)]; rw [if_neg (by have := Ht5.out; omega)]; rw [if_neg (by have := Ht6.out; omega)]; rw [if_neg (by have := Ht8.out; omega)]; rw [if_neg (by have := Ht9.out; omega)]; rw [if_neg (by have := Ht11.out; omega)]; rw [if_neg (by have := Ht12.out; omega)]; rw [if_neg (by have := Ht13.out; omega)]; rw [if_neg (by have := Ht15.out; omega)]; rw [if_pos (by have := Ht16.out; omega)])).symm, by repeat (first | (with_reducible first | exact HB.out | apply below_alloc | apply pw_below_drewN | apply below_drew1) | exact HB.out)⟩
                            · have t16b : (c11 == (l0.length : Int)) = false := beq_eq_false_iff_ne.mpr t16
                              have Ht16 := Aside0.mk t16
                              clear t16
                              by_cases t17 : c0 = (l0.length : Int)
                              · have t17b : (c0 == (l0.length : Int)) = true := beq_iff_eq.mpr t17
                                have Ht17 := Aside0.mk t17
                                clear t17
                                go_wp2
                                go_ret
                                exact ⟨ret_int (HE.out.trans (by rw [if_neg (by have := Ht1.out; omega)]; rw [if_neg (by have := Ht2.out; omega)]; rw [if_neg (by have := Ht3.out; omega)]; rw [if_neg (by have := Ht5.out; omega)]; rw [if_neg (by have := Ht6.out; omega)]; rw [if_neg (by have := Ht8.out; omega)]; rw [if_neg (by have := Ht9.out; omega)]; rw [if_neg (by have := Ht11.out; omega)]; rw [if_neg (by have := Ht12.out; omega)]; rw [if_neg (by have := Ht13.out; omega)]; rw [if_neg (by have := Ht15.out; omega)]; rw [if_neg (by have := Ht16.out; omega)]; rw [if_pos (by have := Ht17.out; omega)])).symm, by repeat (first | (with_reducible first | exact HB.out | apply below_alloc | apply pw_below_drewN | apply below_drew1) | exact HB.out)⟩
                              · have t17b : (c0 == (l0.length : Int)) = false := beq_eq_false_iff_ne.mpr t17
                                have Ht17 := Aside0.mk t17
                                clear t17
                                go_wp2
                                go_ret
                                exact ⟨ret_int (HE.out.trans (by rw [if_neg (by have := Ht1.out; omega)]; rw [if_neg (by have := Ht2.out; omega)]; rw [if_neg (by have := Ht3.out; omega)]; rw [if_neg (by have := Ht5.out; omega)]; rw [if_neg (by have := Ht6.out; omega)]; rw [if_neg (by have := Ht8.out; omega)]; rw [if_neg (by have := Ht9.out; omega)]; rw [if_neg (by have := Ht11.out; omega)]; rw [if_neg (by have := Ht12.out; omega)]; rw [if_neg (by have := Ht13.out; omega)]; rw [if_neg (by have := Ht15.out; omega)]; rw [if_neg (by have := Ht16.out; omega)]; rw [if_neg (by have := Ht17.out; omega)])).symm, by repeat (first | (with_reducible first | exact HB.out | apply below_alloc | apply pw_below_drewN | apply below_drew1) | exact HB.out)⟩

end Go.Proofs.Ytnlbmhojjjjpdaa.F
