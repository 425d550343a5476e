/- The statements' 'laid': things laid down by the program. -/
import Derived.Test.YtnlbmhojjjjpdaaPackJ
namespace Go.Proofs.Ytnlbmhojjjjpdaa.Pk
open Go.RowKit Go.Proofs.YtnlbmhojjjjpdaaW.PrintWords Go.Proofs.YtnlbmhojjjjpdaaW.PrintLast Go.Proofs.YtnlbmhojjjjpdaaW.PrintMore
set_option linter.unusedVariables false
set_option linter.unusedSimpArgs false
/-- The bytes of a thing. -/
def lay1 (x : S27) : List Int := if x.f0 = 0 ∨ x.f0 = 3 then enc x.f1 else if x.f0 = 1 then [bitI x.f2] else if x.f0 = 2 then enc (x.f3.size : Int) ++ bytesOf x.f3 else []
def layAll (l : List S27) : List Int := l.flatMap lay1
theorem lay1_0 {x : S27} (h : x.f0 = 0) : lay1 x = enc x.f1 := by unfold lay1; rw [if_pos (.inl h)]
theorem lay1_3 {x : S27} (h : x.f0 = 3) : lay1 x = enc x.f1 := by unfold lay1; rw [if_pos (.inr h)]
theorem lay1_1 {x : S27} (h : x.f0 = 1) : lay1 x = [bitI x.f2] := by unfold lay1; rw [if_neg (by omega), if_pos h]
theorem lay1_2 {x : S27} (h : x.f0 = 2) : lay1 x = enc (x.f3.size : Int) ++ bytesOf x.f3 := by unfold lay1; rw [if_neg (by omega), if_neg (by omega), if_pos h]
theorem lay1_n {x : S27} (h0 : x.f0 ≠ 0) (h1 : x.f0 ≠ 1) (h2 : x.f0 ≠ 2) (h3 : x.f0 ≠ 3) : lay1 x = [] := by unfold lay1; rw [if_neg (by omega), if_neg h1, if_neg h2]
theorem bytesOf_len (s : ByteArray) : (bytesOf s).length = s.size := by unfold bytesOf; rw [List.length_map]; rfl
theorem lay1_len {x : S27} (h : x.f3.size ≤ 2000) : (lay1 x).length ≤ 2010 := by
  unfold lay1
  have h1 := (enc_len x.f1).2
  have h2 := (enc_len (x.f3.size : Int)).2
  split
  · omega
  · split
    · simp
    · split
      · rw [List.length_append, bytesOf_len]; omega
      · simp
theorem layAll_len {l : List S27} (h : ∀ x ∈ l, x.f3.size ≤ 2000) : (layAll l).length ≤ 2010 * l.length := by
  induction l with
  | nil => simp [layAll]
  | cons x l ih =>
    have h1 := ih (fun y hy => h y (List.mem_cons_of_mem _ hy))
    have h2 := lay1_len (h x (List.mem_cons_self ..))
    unfold layAll at h1 ⊢
    rw [List.flatMap_cons, List.length_append, List.length_cons]; omega
theorem rdT_mem {l : List S27} {i : Int} (h0 : 0 ≤ i) (h1 : i < l.length) : rd_T27 l i ∈ l := by
  unfold rd_T27
  have h : i.toNat < l.length := by omega
  rw [List.getD, List.getElem?_eq_getElem h]; exact List.getElem_mem h
theorem layAll_step {l : List S27} {i : Int} (h0 : 0 ≤ i) (h1 : i < l.length) : layAll (l.take (i + 1).toNat) = layAll (l.take i.toNat) ++ lay1 (rd_T27 l i) := by
  have h : i.toNat < l.length := by omega
  rw [show (i + 1).toNat = i.toNat + 1 from by omega, List.take_succ_eq_append_getElem h]
  unfold layAll rd_T27
  rw [List.flatMap_append, List.getD, List.getElem?_eq_getElem h]
  simp
def OkT (l : List S27) : Prop := l.length ≤ 200 ∧ ∀ x ∈ l, x.f3.size ≤ 2000 ∧ -9223372036854775808 ≤ x.f1 ∧ x.f1 ≤ 9223372036854775807
theorem OkT.len {l : List S27} (h : OkT l) (i : Nat) : (layAll (l.take i)).length < 500000 := by
  have h1 := layAll_len (l := l.take i) (fun x hx => (h.2 x (List.mem_of_mem_take hx)).1)
  have h2 := h.1
  have h3 : (l.take i).length ≤ l.length := by rw [List.length_take]; omega
  omega
def LaidPost (w : World) (bs : List Int) (e : Ending) (w' : World) : Prop := ∃ A c, e = .returned (.slice A bs.length c) ∧ bs.length ≤ c ∧ ReadsInt w' .u8 A bs.length bs ∧ Below w.heap.size w w'
set_option maxHeartbeats 4000000 in
set_option maxRecDepth 100000 in
theorem laid_calls (A : Option Addr) (c : Nat) (l : List S27) (w : World) (hr : Kd.C k27 w A l.length l) (hc : l.length ≤ c) (ho : OkT l) :
    Calls Try.prog 22 #[.slice A l.length c] w (LaidPost w (layAll l)) := by
  have HR := Aside0.mk hr
  have HC := Aside0.mk hc
  have HO := Aside0.mk ho
  have HI0 := Aside0.mk (IsW_new w)
  have HB0 := Aside0.mk (below_alloc (Below.refl _ w) (.cells #[.slice none 0 0] 33))
  clear hr hc ho
  go_enter Try.func22, Try.ntmps22
  go_wp2
  go_loopg [4] l.length (fun kq v4 w' => ∃ (x : Int), v4 = .int .i64 x ∧ Aside0 (0 ≤ x ∧ x ≤ (l.length : Int) ∧ (kq : Int) = l.length - x) ∧ Aside0 (IsW w w.heap.size w' (layAll (l.take x.toNat))) ∧ Aside0 (Below w.heap.size w w'))
  case atStart => exact ⟨0, rfl, ⟨by omega, by omega, by omega⟩, by simpa [layAll] using HI0, HB0⟩
  case round =>
    clear HI0 HB0
    obtain ⟨x, rfl, HK, HI, HB⟩ := hrel
    have hw : wrap64 (x + 1) = x + 1 := by have := HK.out; have := HO.out.1; unfold wrap64; omega
    by_cases hlt : x < (l.length : Int)
    · have p1 := HK.out.1
      have q1 := hlt
      have hm := rdT_mem p1 hlt
      have hx := HO.out.2 _ hm
      have HS := Aside0.mk (layAll_step p1 hlt)
      obtain ⟨ad, e1, hx0, hx1, hx2, hx3, hx4⟩ := at_T27 (Kd.C_below HR.out HB.out) x p1 q1
      cases e1
      have hL := HO.out.len x.toNat
      generalize rd_T27 l x = y at *
      have HY := Aside0.mk hx
      have HL := Aside0.mk hL
      have HKK : Aside0 (0 ≤ x ∧ x < (l.length : Int) ∧ (gk : Int) = l.length - x) := ⟨by have := HK.out; omega⟩
      have c0 : decide (x < (l.length : Int)) = true := decide_eq_true hlt
      have c1 : decide (0 ≤ x) = true := decide_eq_true p1
      replace p1 := eq_true p1
      replace q1 := eq_true q1
      clear hx hm hlt hL HK
      have hk : (y.f0 = 0) ∨ (y.f0 = 3) ∨ (y.f0 = 1) ∨ (y.f0 = 2) ∨ (y.f0 ≠ 0 ∧ y.f0 ≠ 1 ∧ y.f0 ≠ 2 ∧ y.f0 ≠ 3) := by omega
      rcases hk with h | h | h | h | h
      · have HN : Aside0 (layAll (l.take (wrap64 (x + 1)).toNat) = layAll (l.take x.toNat) ++ enc y.f1) := ⟨by rw [hw, HS.out, lay1_0 h]⟩
        have d0 : (y.f0 == 0) = true := beq_iff_eq.mpr (by omega)
        clear HS h
        go_wp2_with (first | (go_at_call 20; refine (Writer_Int w.heap.size w _ _ y.f1 HB.out HI.out (Nat.lt_trans HL.out (by decide)) HY.out.2.1 HY.out.2.2).mono ?_; rintro e w1 ⟨rfl, hI, hB⟩; have HI1 := Aside0.mk hI; have HB1 := Aside0.mk hB; clear hI hB))
        go_roundg (gk - 1)
        case measure => have := HKK.out; omega
        case rel => exact ⟨wrap64 (x + 1), rfl, ⟨by rw [hw]; have := HKK.out; omega⟩, ⟨by rw [HN.out]; exact HI1.out⟩, HB1⟩
      · have HN : Aside0 (layAll (l.take (wrap64 (x + 1)).toNat) = layAll (l.take x.toNat) ++ enc y.f1) := ⟨by rw [hw, HS.out, lay1_3 h]⟩
        have d0 : (y.f0 == 0) = false := beq_eq_false_iff_ne.mpr (by omega)
        have d3 : (y.f0 == 3) = true := beq_iff_eq.mpr (by omega)
        clear HS h
        go_wp2_with (first | (go_at_call 20; refine (Writer_Int w.heap.size w _ _ y.f1 HB.out HI.out (Nat.lt_trans HL.out (by decide)) HY.out.2.1 HY.out.2.2).mono ?_; rintro e w1 ⟨rfl, hI, hB⟩; have HI1 := Aside0.mk hI; have HB1 := Aside0.mk hB; clear hI hB))
        go_roundg (gk - 1)
        case measure => have := HKK.out; omega
        case rel => exact ⟨wrap64 (x + 1), rfl, ⟨by rw [hw]; have := HKK.out; omega⟩, ⟨by rw [HN.out]; exact HI1.out⟩, HB1⟩
      · have HN : Aside0 (layAll (l.take (wrap64 (x + 1)).toNat) = layAll (l.take x.toNat) ++ [bitI y.f2]) := ⟨by rw [hw, HS.out, lay1_1 h]⟩
        have d0 : (y.f0 == 0) = false := beq_eq_false_iff_ne.mpr (by omega)
        have d3 : (y.f0 == 3) = false := beq_eq_false_iff_ne.mpr (by omega)
        have d1 : (y.f0 == 1) = true := beq_iff_eq.mpr (by omega)
        clear HS h
        go_wp2_with (first | (go_at_call 26; refine (Writer_Bool w.heap.size w _ _ y.f2 HB.out HI.out (Nat.lt_trans HL.out (by decide))).mono ?_; rintro e w1 ⟨rfl, hI, hB⟩; have HI1 := Aside0.mk hI; have HB1 := Aside0.mk hB; clear hI hB))
        go_roundg (gk - 1)
        case measure => have := HKK.out; omega
        case rel => exact ⟨wrap64 (x + 1), rfl, ⟨by rw [hw]; have := HKK.out; omega⟩, ⟨by rw [HN.out]; exact HI1.out⟩, HB1⟩
      · have HN : Aside0 (layAll (l.take (wrap64 (x + 1)).toNat) = layAll (l.take x.toNat) ++ enc (y.f3.size : Int) ++ bytesOf y.f3) := ⟨by rw [hw, HS.out, lay1_2 h, List.append_assoc]⟩
        have d0 : (y.f0 == 0) = false := beq_eq_false_iff_ne.mpr (by omega)
        have d3 : (y.f0 == 3) = false := beq_eq_false_iff_ne.mpr (by omega)
        have d1 : (y.f0 == 1) = false := beq_eq_false_iff_ne.mpr (by omega)
        have d2 : (y.f0 == 2) = true := beq_iff_eq.mpr (by omega)
        clear HS h
        go_wp2_with (first | (go_at_call 28; refine (Writer_Text w.heap.size w _ _ y.f3 HB.out HI.out (Nat.lt_trans HL.out (by decide)) (Nat.lt_of_le_of_lt HY.out.1 (by decide))).mono ?_; rintro e w1 ⟨rfl, hI, hB⟩; have HI1 := Aside0.mk hI; have HB1 := Aside0.mk hB; clear hI hB))
        go_roundg (gk - 1)
        case measure => have := HKK.out; omega
        case rel => exact ⟨wrap64 (x + 1), rfl, ⟨by rw [hw]; have := HKK.out; omega⟩, ⟨by rw [HN.out]; exact HI1.out⟩, HB1⟩
      · have HI1 := HI
        have HB1 := HB
        have HN : Aside0 (layAll (l.take (wrap64 (x + 1)).toNat) = layAll (l.take x.toNat)) := ⟨by rw [hw, HS.out, lay1_n h.1 h.2.1 h.2.2.1 h.2.2.2, List.append_nil]⟩
        have d0 : (y.f0 == 0) = false := beq_eq_false_iff_ne.mpr (by omega)
        have d3 : (y.f0 == 3) = false := beq_eq_false_iff_ne.mpr (by omega)
        have d1 : (y.f0 == 1) = false := beq_eq_false_iff_ne.mpr (by omega)
        have d2 : (y.f0 == 2) = false := beq_eq_false_iff_ne.mpr (by omega)
        clear HS h
        go_wp2
        go_roundg (gk - 1)
        case measure => have := HKK.out; omega
        case rel => exact ⟨wrap64 (x + 1), rfl, ⟨by rw [hw]; have := HKK.out; omega⟩, ⟨by rw [HN.out]; exact HI1.out⟩, HB1⟩
    · have he : x = l.length := by have := HK.out; omega
      subst he
      have c0 : decide ((l.length : Int) < (l.length : Int)) = false := decide_eq_false (by omega)
      have hI := HI.out
      rw [Int.toNat_natCast, List.take_length] at hI
      have HI2 := Aside0.mk hI
      have HL2 : Aside0 ((layAll l).length < 1000000000) := ⟨by have := HO.out.len l.length; rw [List.take_length] at this; omega⟩
      clear hI HK hlt
      go_wp2_with (first | (go_at_call 21; refine (Writer_Bytes w.heap.size w _ _ HI2.out HL2.out).mono ?_; rintro e w3 ⟨v, rfl, hown, hB⟩; obtain ⟨A3, c3, rfl, hc3, hr3⟩ := own_slice_le hown; have HB3 := Aside0.mk (below_step HB.out hB); have HR3 := Aside0.mk hr3; have HC3 := Aside0.mk hc3; clear hown hB hr3 hc3))
      go_ret
      exact ⟨A3, c3, rfl, HC3.out, HR3.out, HB3.out⟩
end Go.Proofs.Ytnlbmhojjjjpdaa.Pk
