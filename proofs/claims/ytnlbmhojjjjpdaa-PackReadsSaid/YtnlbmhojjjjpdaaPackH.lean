/- The walk of PackSizes. -/
import Derived.Test.YtnlbmhojjjjpdaaPackG
import Derived.Test.YtnlbmhojjjjpdaaPackP
namespace Go.Proofs.Ytnlbmhojjjjpdaa.Pk
open Go.RowKit Go.Proofs.YtnlbmhojjjjpdaaW.PrintWords Go.Proofs.YtnlbmhojjjjpdaaW.PrintLast Go.Proofs.YtnlbmhojjjjpdaaW.PrintMore
set_option linter.unusedVariables false
set_option linter.unusedSimpArgs false
theorem IsW_alloc {W w : World} (hB : Below W.heap.size W w) : IsW W w.heap.size (w.alloc (.cells #[.slice none 0 0] 33)) [] :=
  ⟨hB.size, .slice none 0 0, heap_alloc_new w _, own_nil _ _ _ _⟩
theorem sizes_cases (a b : Int) (ha : -9223372036854775808 ≤ a ∧ a ≤ 9223372036854775807) (hb : -9223372036854775808 ≤ b ∧ b ≤ 9223372036854775807) :
    ((a == b) = true ∧ decide (a ≥ -64) = false ∧ decide (a ≤ 63) = true ∧ decide (a ≥ 0) = false ∧ decide (a < 0) = true ∧ decide (b ≥ a) = true ∧ decide (b ≤ a) = true ∧ (((enc a).length : Int) == 1) = false ∧ ((strOfNums (enc a)).toList == (strOfNums (enc b)).toList) = true ∧ decide (((enc b).length : Int) ≥ ((enc a).length : Int)) = true) ∨
    ((a == b) = true ∧ decide (a ≥ -64) = true ∧ decide (a ≤ 63) = true ∧ decide (a ≥ 0) = false ∧ decide (a < 0) = true ∧ decide (b ≥ a) = true ∧ decide (b ≤ a) = true ∧ (((enc a).length : Int) == 1) = true ∧ ((strOfNums (enc a)).toList == (strOfNums (enc b)).toList) = true ∧ decide (((enc b).length : Int) ≥ ((enc a).length : Int)) = true) ∨
    ((a == b) = true ∧ decide (a ≥ -64) = true ∧ decide (a ≤ 63) = true ∧ decide (a ≥ 0) = true ∧ decide (a < 0) = false ∧ decide (b ≥ a) = true ∧ decide (b ≤ a) = true ∧ (((enc a).length : Int) == 1) = true ∧ ((strOfNums (enc a)).toList == (strOfNums (enc b)).toList) = true ∧ decide (((enc b).length : Int) ≥ ((enc a).length : Int)) = true) ∨
    ((a == b) = true ∧ decide (a ≥ -64) = true ∧ decide (a ≤ 63) = false ∧ decide (a ≥ 0) = true ∧ decide (a < 0) = false ∧ decide (b ≥ a) = true ∧ decide (b ≤ a) = true ∧ (((enc a).length : Int) == 1) = false ∧ ((strOfNums (enc a)).toList == (strOfNums (enc b)).toList) = true ∧ decide (((enc b).length : Int) ≥ ((enc a).length : Int)) = true) ∨
    ((a == b) = false ∧ decide (a ≥ -64) = false ∧ decide (a ≤ 63) = true ∧ decide (a ≥ 0) = false ∧ decide (a < 0) = true ∧ decide (b ≥ a) = true ∧ decide (b ≤ a) = false ∧ (((enc a).length : Int) == 1) = false ∧ ((strOfNums (enc a)).toList == (strOfNums (enc b)).toList) = false ∧ True) ∨
    ((a == b) = false ∧ decide (a ≥ -64) = true ∧ decide (a ≤ 63) = true ∧ decide (a ≥ 0) = false ∧ decide (a < 0) = true ∧ decide (b ≥ a) = true ∧ decide (b ≤ a) = false ∧ (((enc a).length : Int) == 1) = true ∧ ((strOfNums (enc a)).toList == (strOfNums (enc b)).toList) = false ∧ True) ∨
    ((a == b) = false ∧ decide (a ≥ -64) = true ∧ decide (a ≤ 63) = true ∧ decide (a ≥ 0) = true ∧ decide (a < 0) = false ∧ decide (b ≥ a) = true ∧ decide (b ≤ a) = false ∧ (((enc a).length : Int) == 1) = true ∧ ((strOfNums (enc a)).toList == (strOfNums (enc b)).toList) = false ∧ decide (((enc b).length : Int) ≥ ((enc a).length : Int)) = true) ∨
    ((a == b) = false ∧ decide (a ≥ -64) = true ∧ decide (a ≤ 63) = false ∧ decide (a ≥ 0) = true ∧ decide (a < 0) = false ∧ decide (b ≥ a) = true ∧ decide (b ≤ a) = false ∧ (((enc a).length : Int) == 1) = false ∧ ((strOfNums (enc a)).toList == (strOfNums (enc b)).toList) = false ∧ decide (((enc b).length : Int) ≥ ((enc a).length : Int)) = true) ∨
    ((a == b) = false ∧ decide (a ≥ -64) = false ∧ decide (a ≤ 63) = true ∧ decide (a ≥ 0) = false ∧ decide (a < 0) = true ∧ decide (b ≥ a) = false ∧ decide (b ≤ a) = true ∧ (((enc a).length : Int) == 1) = false ∧ ((strOfNums (enc a)).toList == (strOfNums (enc b)).toList) = false ∧ decide (((enc b).length : Int) ≥ ((enc a).length : Int)) = true) ∨
    ((a == b) = false ∧ decide (a ≥ -64) = true ∧ decide (a ≤ 63) = true ∧ decide (a ≥ 0) = false ∧ decide (a < 0) = true ∧ decide (b ≥ a) = false ∧ decide (b ≤ a) = true ∧ (((enc a).length : Int) == 1) = true ∧ ((strOfNums (enc a)).toList == (strOfNums (enc b)).toList) = false ∧ decide (((enc b).length : Int) ≥ ((enc a).length : Int)) = true) ∨
    ((a == b) = false ∧ decide (a ≥ -64) = true ∧ decide (a ≤ 63) = true ∧ decide (a ≥ 0) = true ∧ decide (a < 0) = false ∧ decide (b ≥ a) = false ∧ decide (b ≤ a) = true ∧ (((enc a).length : Int) == 1) = true ∧ ((strOfNums (enc a)).toList == (strOfNums (enc b)).toList) = false ∧ True) ∨
    ((a == b) = false ∧ decide (a ≥ -64) = true ∧ decide (a ≤ 63) = false ∧ decide (a ≥ 0) = true ∧ decide (a < 0) = false ∧ decide (b ≥ a) = false ∧ decide (b ≤ a) = true ∧ (((enc a).length : Int) == 1) = false ∧ ((strOfNums (enc a)).toList == (strOfNums (enc b)).toList) = false ∧ True) := by
  have HS := str_same (enc_bytes a ha.1 ha.2) (enc_bytes b hb.1 hb.2)
  have HO := enc_one a
  have HI := fun h => enc_inj ha hb h
  have HM := enc_mono a b
  have ho : (((enc a).length : Int) == 1) = decide (-64 ≤ a ∧ a ≤ 63) := by
    by_cases h : -64 ≤ a ∧ a ≤ 63
    · rw [decide_eq_true h]; exact beq_iff_eq.mpr (by have := HO.mpr h; omega)
    · rw [decide_eq_false h]; exact beq_eq_false_iff_ne.mpr (fun h2 => h (HO.mp (by omega)))
  have hs : ((strOfNums (enc a)).toList == (strOfNums (enc b)).toList) = (a == b) := by
    rw [HS]
    by_cases h : a = b
    · rw [h]; simp
    · rw [decide_eq_false (fun h2 => h (HI h2))]; exact (beq_eq_false_iff_ne.mpr h).symm
  have hlen : (0 ≤ a ∧ a ≤ b) ∨ (a < 0 ∧ b ≤ a) → decide (((enc b).length : Int) ≥ ((enc a).length : Int)) = true := fun h => decide_eq_true (by have := HM h; omega)
  have HC1 : a = b ∨ a < b ∨ b < a := by omega
  have HC2 : a < -64 ∨ (-64 ≤ a ∧ a < 0) ∨ (0 ≤ a ∧ a ≤ 63) ∨ 63 < a := by omega
  rcases HC1 with k | k | k <;> rcases HC2 with h | h | h | h
  · exact .inl ⟨beq_iff_eq.mpr k, decide_eq_false (by omega), decide_eq_true (by omega), decide_eq_false (by omega), decide_eq_true (by omega), decide_eq_true (by omega), decide_eq_true (by omega), ho.trans (decide_eq_false (by omega)), hs.trans (beq_iff_eq.mpr k), hlen (by omega)⟩
  · exact .inr (.inl ⟨beq_iff_eq.mpr k, decide_eq_true (by omega), decide_eq_true (by omega), decide_eq_false (by omega), decide_eq_true (by omega), decide_eq_true (by omega), decide_eq_true (by omega), ho.trans (decide_eq_true (by omega)), hs.trans (beq_iff_eq.mpr k), hlen (by omega)⟩)
  · exact .inr (.inr (.inl ⟨beq_iff_eq.mpr k, decide_eq_true (by omega), decide_eq_true (by omega), decide_eq_true (by omega), decide_eq_false (by omega), decide_eq_true (by omega), decide_eq_true (by omega), ho.trans (decide_eq_true (by omega)), hs.trans (beq_iff_eq.mpr k), hlen (by omega)⟩))
  · exact .inr (.inr (.inr (.inl ⟨beq_iff_eq.mpr k, decide_eq_true (by omega), decide_eq_false (by omega), decide_eq_true (by omega), decide_eq_false (by omega), decide_eq_true (by omega), decide_eq_true (by omega), ho.trans (decide_eq_false (by omega)), hs.trans (beq_iff_eq.mpr k), hlen (by omega)⟩)))
  · exact .inr (.inr (.inr (.inr (.inl ⟨beq_eq_false_iff_ne.mpr (by omega), decide_eq_false (by omega), decide_eq_true (by omega), decide_eq_false (by omega), decide_eq_true (by omega), decide_eq_true (by omega), decide_eq_false (by omega), ho.trans (decide_eq_false (by omega)), hs.trans (beq_eq_false_iff_ne.mpr (by omega)), trivial⟩))))
  · exact .inr (.inr (.inr (.inr (.inr (.inl ⟨beq_eq_false_iff_ne.mpr (by omega), decide_eq_true (by omega), decide_eq_true (by omega), decide_eq_false (by omega), decide_eq_true (by omega), decide_eq_true (by omega), decide_eq_false (by omega), ho.trans (decide_eq_true (by omega)), hs.trans (beq_eq_false_iff_ne.mpr (by omega)), trivial⟩)))))
  · exact .inr (.inr (.inr (.inr (.inr (.inr (.inl ⟨beq_eq_false_iff_ne.mpr (by omega), decide_eq_true (by omega), decide_eq_true (by omega), decide_eq_true (by omega), decide_eq_false (by omega), decide_eq_true (by omega), decide_eq_false (by omega), ho.trans (decide_eq_true (by omega)), hs.trans (beq_eq_false_iff_ne.mpr (by omega)), hlen (by omega)⟩))))))
  · exact .inr (.inr (.inr (.inr (.inr (.inr (.inr (.inl ⟨beq_eq_false_iff_ne.mpr (by omega), decide_eq_true (by omega), decide_eq_false (by omega), decide_eq_true (by omega), decide_eq_false (by omega), decide_eq_true (by omega), decide_eq_false (by omega), ho.trans (decide_eq_false (by omega)), hs.trans (beq_eq_false_iff_ne.mpr (by omega)), hlen (by omega)⟩)))))))
  · exact .inr (.inr (.inr (.inr (.inr (.inr (.inr (.inr (.inl ⟨beq_eq_false_iff_ne.mpr (by omega), decide_eq_false (by omega), decide_eq_true (by omega), decide_eq_false (by omega), decide_eq_true (by omega), decide_eq_false (by omega), decide_eq_true (by omega), ho.trans (decide_eq_false (by omega)), hs.trans (beq_eq_false_iff_ne.mpr (by omega)), hlen (by omega)⟩))))))))
  · exact .inr (.inr (.inr (.inr (.inr (.inr (.inr (.inr (.inr (.inl ⟨beq_eq_false_iff_ne.mpr (by omega), decide_eq_true (by omega), decide_eq_true (by omega), decide_eq_false (by omega), decide_eq_true (by omega), decide_eq_false (by omega), decide_eq_true (by omega), ho.trans (decide_eq_true (by omega)), hs.trans (beq_eq_false_iff_ne.mpr (by omega)), hlen (by omega)⟩)))))))))
  · exact .inr (.inr (.inr (.inr (.inr (.inr (.inr (.inr (.inr (.inr (.inl ⟨beq_eq_false_iff_ne.mpr (by omega), decide_eq_true (by omega), decide_eq_true (by omega), decide_eq_true (by omega), decide_eq_false (by omega), decide_eq_false (by omega), decide_eq_true (by omega), ho.trans (decide_eq_true (by omega)), hs.trans (beq_eq_false_iff_ne.mpr (by omega)), trivial⟩))))))))))
  · exact .inr (.inr (.inr (.inr (.inr (.inr (.inr (.inr (.inr (.inr (.inr (⟨beq_eq_false_iff_ne.mpr (by omega), decide_eq_true (by omega), decide_eq_false (by omega), decide_eq_true (by omega), decide_eq_false (by omega), decide_eq_false (by omega), decide_eq_true (by omega), ho.trans (decide_eq_false (by omega)), hs.trans (beq_eq_false_iff_ne.mpr (by omega)), trivial⟩)))))))))))
set_option maxHeartbeats 8000000 in
set_option maxRecDepth 100000 in
theorem PackSizes_calls (a b : Int) (w : World) (ha0 : -9223372036854775808 ≤ a) (ha1 : a ≤ 9223372036854775807) (hb0 : -9223372036854775808 ≤ b) (hb1 : b ≤ 9223372036854775807) :
    Calls Try.prog 6 #[.int .i64 a, .int .i64 b] w fun e w' => e = .returned (.bool true) ∧ Below w.heap.size w w' := by
  have HU := Aside0.mk (awake_calls w)
  have HA := Aside0.mk (And.intro ha0 ha1)
  have HB := Aside0.mk (And.intro hb0 hb1)
  have la := enc_len a
  have lb := enc_len b
  obtain ⟨la1, la2⟩ := la
  have e1 : decide (((enc a).length : Int) < 1) = false := decide_eq_false (by omega)
  have e2 : decide (((enc a).length : Int) > 10) = false := decide_eq_false (by omega)
  clear ha0 ha1 hb0 hb1
  have la1 := Aside0.mk la1
  have lb := Aside0.mk lb
  have la2 := Aside0.mk la2
  have HK := sizes_cases a b HA.out HB.out
  rcases HK with ⟨f0, f1, f2, f3, f4, f5, f6, f7, f8, f9⟩ | ⟨f0, f1, f2, f3, f4, f5, f6, f7, f8, f9⟩ | ⟨f0, f1, f2, f3, f4, f5, f6, f7, f8, f9⟩ | ⟨f0, f1, f2, f3, f4, f5, f6, f7, f8, f9⟩ | ⟨f0, f1, f2, f3, f4, f5, f6, f7, f8, f9⟩ | ⟨f0, f1, f2, f3, f4, f5, f6, f7, f8, f9⟩ | ⟨f0, f1, f2, f3, f4, f5, f6, f7, f8, f9⟩ | ⟨f0, f1, f2, f3, f4, f5, f6, f7, f8, f9⟩ | ⟨f0, f1, f2, f3, f4, f5, f6, f7, f8, f9⟩ | ⟨f0, f1, f2, f3, f4, f5, f6, f7, f8, f9⟩ | ⟨f0, f1, f2, f3, f4, f5, f6, f7, f8, f9⟩ | ⟨f0, f1, f2, f3, f4, f5, f6, f7, f8, f9⟩
  all_goals
    go_enter Try.func6, Try.ntmps6
    go_wp2_with (first
      | (go_at_call 15; refine HU.out.mono ?_; rintro e w1 ⟨rfl, hB⟩; have H1 := Aside0.mk (Writer_Int w1.heap.size w (w1.alloc (.cells #[.slice none 0 0] 33)) [] a (below_alloc hB _) (IsW_alloc hB) (by simp) HA.out.1 HA.out.2); clear hB)
      | (go_at_call 20; refine H1.out.mono ?_; rintro e w2 ⟨rfl, hI, hB⟩; rw [List.nil_append] at hI; have HB2 := Aside0.mk hB; have HC := Aside0.mk (Writer_Bytes _ w w2 _ hI (Nat.lt_of_le_of_lt la2.out (by decide))); clear hI hB H1)
      | (go_at_call 21; refine HC.out.mono ?_; rintro e w3 ⟨v, rfl, hown, hB⟩; obtain ⟨A3, c3, rfl, hc3, hr3⟩ := own_slice_le hown; have HB3 := Aside0.mk (below_step HB2.out hB); have HR3 := Aside0.mk hr3; have J1 := Aside0.mk (Writer_Int w3.heap.size w3 (w3.alloc (.cells #[.slice none 0 0] 33)) [] b (below_alloc (Below.refl _ w3) _) (IsW_new w3) (by simp) HB.out.1 HB.out.2); clear hown hB hr3 HC)
      | (go_at_call 20; refine J1.out.mono ?_; rintro e w4 ⟨rfl, hI, hB⟩; rw [List.nil_append] at hI; have HB4 := Aside0.mk hB; have JC := Aside0.mk (Writer_Bytes _ w3 w4 _ hI (Nat.lt_of_le_of_lt lb.out.2 (by decide))); clear hI hB J1)
      | (go_at_call 21; refine JC.out.mono ?_; rintro e w5 ⟨v, rfl, hown, hB⟩; obtain ⟨A5, c5, rfl, hc5, hr5⟩ := own_slice_le hown; have HB5 := Aside0.mk (below_step HB4.out hB); have cx := string_of_reads (c := c3) (dst := 9) Try.underlying25 Try.underlying5 Try.underlying9 (ReadsInt.below HR3.out HB5.out); have cy := string_of_reads (c := c5) (dst := 9) Try.underlying25 Try.underlying5 Try.underlying9 hr5; have HBB := Aside0.mk (below_step HB3.out HB5.out); clear hown hB hr5 JC)
      )
    go_ret
    exact ⟨by first | rfl | exact congrArg (fun b => Ending.returned (.bool b)) (decide_eq_true (p := (enc a).length ≤ (enc b).length) (by simpa using f9)), HBB.out⟩
end Go.Proofs.Ytnlbmhojjjjpdaa.Pk
