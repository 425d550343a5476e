/- The chapter's examples hold: the contract of the statements' 'awake'. -/
import Derived.Test.YtnlbmhojjjjpdaaPackF
namespace Go.Proofs.Ytnlbmhojjjjpdaa.Pk
open Go.RowKit Go.Proofs.YtnlbmhojjjjpdaaW.PrintWords Go.Proofs.YtnlbmhojjjjpdaaW.PrintLast Go.Proofs.YtnlbmhojjjjpdaaW.PrintMore
set_option linter.unusedVariables false
set_option linter.unusedSimpArgs false

theorem IsW_new (w : World) : IsW w w.heap.size (w.alloc (.cells #[.slice none 0 0] 33)) [] :=
  ⟨Nat.le_refl _, .slice none 0 0, heap_alloc_new w _, own_nil _ _ _ _⟩
theorem own_slice_le {w : World} {base n : Nat} {v : Value} {bs : List Int} (h : w.ownsRow base 5 1 v n (nums .u8 bs)) : ∃ A c, v = .slice A n c ∧ n ≤ c ∧ ReadsInt w .u8 A n bs := by
  obtain ⟨A, c, rfl, hr⟩ := own_reads h
  refine ⟨A, c, rfl, ?_, hr⟩
  rcases h.2 with ⟨h1, h2⟩ | ⟨g2, cap, cur, h1, _, _, h3, _⟩
  · omega
  · injection h1 with _ _ h1; omega
/-- What the examples lay down. -/
def B5 : List Int := [129, 1, 2, 97, 1]
theorem B5_is : ([] ++ enc (-65)) ++ enc (((⟨#[97]⟩ : ByteArray).size : Nat) : Int) ++ bytesOf (⟨#[97]⟩ : ByteArray) ++ [bitI true] = B5 := by decide +kernel
def B3 : List Int := [2, 97, 1]
def B1 : List Int := [1]
def B0 : List Int := []
theorem bytes_B5 : Bytes8 B5 := by unfold Bytes8 B5; decide
theorem bytes_B3 : Bytes8 B3 := by unfold Bytes8 B3; decide
theorem bytes_B1 : Bytes8 B1 := by unfold Bytes8 B1; decide
theorem take_B5 : rInt B5 false = (-65, B3, false) := by decide +kernel
theorem take_B3 : rText 1 B3 false = ([97], B1, false) := by decide +kernel
theorem take_B1 : rBool B1 false = (true, B0, false) := by decide +kernel
set_option maxHeartbeats 8000000 in
set_option maxRecDepth 100000 in
theorem awake_calls (w : World) : Calls Try.prog 15 #[] w fun e w' => e = .returned (.bool true) ∧ Below w.heap.size w w' := by
  have H1 := Aside0.mk (Writer_Int w.heap.size w (w.alloc (.cells #[.slice none 0 0] 33)) [] (-65) (below_alloc (Below.refl _ w) _) (IsW_new w) (by simp) (by omega) (by omega))
  have hl0 : ((B0.length : Int) == 0) = true := rfl
  have hs1 : strOfNums [97] = (⟨#[97]⟩ : ByteArray) := by decide +kernel
  have hs5 : strOfNums B5 = (⟨#[129, 1, 2, 97, 1]⟩ : ByteArray) := by decide +kernel
  go_enter Try.func15, Try.ntmps15
  go_wp2_with (first | (go_at_call 20; refine H1.out.mono ?_; rintro e w1 ⟨rfl, hI, hB⟩; have H2 := Aside0.mk (Writer_Text w.heap.size w w1 _ ⟨#[97]⟩ hB hI (by decide +kernel) (by decide)); clear hI hB) | (go_at_call 28; refine H2.out.mono ?_; rintro e w2 ⟨rfl, hI, hB⟩; have H3 := Aside0.mk (Writer_Bool w.heap.size w w2 _ true hB hI (by decide +kernel)); clear hI hB) | (go_at_call 26; refine H3.out.mono ?_; rintro e w3 ⟨rfl, hI, hB⟩; rw [B5_is] at hI; have H4 := Aside0.mk (Writer_Bytes w.heap.size w w3 _ hI (by decide)); have HB3 := Aside0.mk hB; clear hI hB) | (go_at_call 21; refine H4.out.mono ?_; rintro e w4 ⟨v4, rfl, hown, hB⟩; obtain ⟨A4, c4, rfl, hc4, hr4⟩ := own_slice_le hown; have HB4 := Aside0.mk (below_step HB3.out hB); have HR4 := Aside0.mk hr4; have H5 := Aside0.mk (Pack_Read A4 c4 w4 B5 hc4 hr4 (by decide)); clear hown hB hr4) | (go_at_call 24; refine H5.out.mono ?_; rintro e w5 ⟨g, A5, c5, rfl, hg, hb, hc5, hr5, hfar, hB⟩; have hcv := string_of_reads (c := c4) (dst := 9) Try.underlying25 Try.underlying5 Try.underlying9 (ReadsInt.below HR4.out hB); have HB5 := Aside0.mk (below_step HB4.out hB); have HF5 : Aside0 (∀ ad, A5 = some ad → ad.block ≠ g) := ⟨fun ad e => (hfar ad e).1⟩; have HR5 := Aside0.mk hr5; have HG : Aside0 (w.heap.size ≤ g) := ⟨Nat.le_trans HB4.out.size hg⟩; have H6 := Aside0.mk (Reader_Int g A5 c5 w5 B5 false hb hc5 hr5 HF5.out bytes_B5 (by decide) (-65) B3 false take_B5); clear hg hb hc5 hr5 hfar hB) | (go_at_call 25; refine H6.out.mono ?_; rintro e w6 ⟨rfl, A6, c6, q1, q2, q3, q4, q5⟩; have HR6 := Aside0.mk (q3 w6 (reads_keep HR5.out q5.1 HF5.out)); have HF6 := Aside0.mk (q4 g HF5.out); have HK6 := Aside0.mk q5; have H7 := Aside0.mk (Reader_Text g A6 c6 w6 B3 false q1 q2 HR6.out HF6.out bytes_B3 (by decide) 1 [97] B1 false take_B3); clear q1 q2 q3 q4 q5) | (go_at_call 29; refine H7.out.mono ?_; rintro e w7 ⟨rfl, A7, c7, q1, q2, q3, q4, q5⟩; have HR7 := Aside0.mk (q3 w7 (reads_keep HR6.out q5.1 HF6.out)); have HF7 := Aside0.mk (q4 g HF6.out); have HK7 := Aside0.mk (HK6.out.trans q5); have H8 := Aside0.mk (Reader_Bool g A7 c7 w7 B1 false q1 q2 HR7.out HF7.out bytes_B1 (by decide) true B0 false take_B1); clear q1 q2 q3 q4 q5) | (go_at_call 27; refine H8.out.mono ?_; rintro e w8 ⟨rfl, A8, c8, q1, q2, q3, q4, q5⟩; have HK8 := Aside0.mk (HK7.out.trans q5); have H9 := Aside0.mk (Reader_Left g A8 c8 w8 B0 false q1); have H10 := Aside0.mk (fun nd => Reader_Err g A8 c8 (w8.drewN nd) B0 false q1); clear q1 q2 q3 q4 q5) | (go_at_call 31; refine H9.out.mono ?_; rintro e w9 ⟨rfl, ⟨nd, rfl⟩⟩) | (go_at_call 30; refine (H10.out _).mono ?_; rintro e w10 ⟨rfl, ⟨nd2, rfl⟩⟩))
  go_ret
  exact ⟨by first | rfl | (simp; done), pw_below_drewN (below_keep HB5.out HG.out HK8.out) _⟩
end Go.Proofs.Ytnlbmhojjjjpdaa.Pk
