/- The walk of PackWrites (written by gen_writes.py). -/
import Derived.Test.YtnlbmhojjjjpdaaPackS
namespace Go.Proofs.Ytnlbmhojjjjpdaa.Pk
open Go.RowKit Go.Proofs.YtnlbmhojjjjpdaaW.PrintWords Go.Proofs.YtnlbmhojjjjpdaaW.PrintLast Go.Proofs.YtnlbmhojjjjpdaaW.PrintMore
set_option linter.unusedVariables false
set_option linter.unusedSimpArgs false
theorem own_below1 {w w' : World} {B e size n : Nat} {v : Value} {xs : List Value} (h : w.ownsRow B e size v n xs) (hb : Below w.heap.size w w') : w'.ownsRow B e size v n xs := by
  refine ⟨h.1, ?_⟩
  rcases h.2 with h2 | ⟨g, cap, cur, rfl, h3, h4, h5⟩
  · exact .inl h2
  · exact .inr ⟨g, cap, cur, rfl, h3, (hb.block g (lt_of_get h4)).trans h4, h5⟩
theorem IsW_below {W w w' : World} {g : Nat} {bs : List Int} (h : IsW W g w bs) (hb : Below w.heap.size w w') : IsW W g w' bs := by
  obtain ⟨h1, v, h2, h3⟩ := h
  exact ⟨h1, v, (hb.block g (lt_of_get h2)).trans h2, own_below1 h3 hb⟩
/-- An own row of one byte: its cell can be written. -/
theorem own_one {w : World} {base : Nat} {v : Value} {x : Int} (h : w.ownsRow base 5 1 v 1 (nums .u8 [x])) : ∃ g c, v = .slice (some ⟨g, 0, none⟩) 1 c ∧ base ≤ g ∧ 1 ≤ c ∧ w.cell? ⟨g, 0, none⟩ = some (.int .u8 x) ∧ w.frozen? ⟨g, 0, none⟩ = false := by
  rcases h.2 with ⟨_, h2⟩ | ⟨g, cap, cur, rfl, h3, h4, h5, h6, h7, h8⟩
  · omega
  · refine ⟨g, cap, rfl, h3, h5, ?_, blk_frozen h4 0⟩
    rw [blk_cell h4 0]
    have h9 : cur.toList[0]? = some (.int .u8 x) := by
      have := congrArg (fun l => l[0]?) h8
      simpa [List.getElem?_take, nums] using this
    simpa using h9
theorem enc_5 : enc 5 = [10] := by decide
theorem str_10 : strOfNums [10] = (⟨#[10]⟩ : ByteArray) := by decide +kernel
set_option maxHeartbeats 4000000 in
set_option maxRecDepth 100000 in
theorem ref_Text (W w : World) (v : Value) (bs : List Int) (s : ByteArray) (hB : Below W.heap.size W w) (ho : w.ownsRow W.heap.size 5 1 v bs.length (nums .u8 bs)) (hl : bs.length < 800000000) (hs : s.size < 90000000) :
    Calls Try.prog 19 #[v, .string s] w (OwnPost W (bs ++ enc s.size ++ bytesOf s)) := by
  have HW := Aside0.mk (ref_Int W w v bs (s.size : Int) hB ho (by omega) (by omega) (by omega))
  have hel := enc_len (s.size : Int)
  have HL : Aside0 ((bs ++ enc s.size).length + s.size ≤ 1000000000) := ⟨by rw [List.length_append]; omega⟩
  clear hB ho hl hs hel
  go_enter Try.func19, Try.ntmps19
  go_wp2_with (first | (go_at_call 17; refine HW.out.mono ?_; rintro e w1 ⟨v1, rfl, ho, hB⟩; have HO := Aside0.mk ho; have HB := Aside0.mk hB; clear ho hB) | (at_builtin; refine print_append_str (w0 := W) W.heap.size rfl (.tmp 8) (.tmp 9) 25 9 5 rfl Try.underlying25 Try.underlying9 info5 _ (bs ++ enc s.size) s (by simp [Act.eval, Act.put]) rfl HO.out HB.out HB.out.size (by have := HL.out; omega) ?_; intro v2 w2 hown hb1 hg1; have HO1 := Aside0.mk hown; have HB1 := Aside0.mk hb1; clear hown hb1 hg1))
  go_ret
  exact ⟨_, rfl, by simpa using HO1.out, HB1.out⟩
set_option maxHeartbeats 4000000 in
set_option maxRecDepth 100000 in
theorem PackWrites_calls (A : Option Addr) (c : Nat) (l : List S27) (w : World) (hr : Kd.C k27 w A l.length l) (hc : l.length ≤ c) (hn : ∀ x ∈ l, -9223372036854775808 ≤ x.f1 ∧ x.f1 ≤ 9223372036854775807) :
    Calls Try.prog 3 #[.slice A l.length c] w fun e w' => e = .returned (.bool true) ∧ Below w.heap.size w w' := by
  have HU := Aside0.mk (awake_calls w)
  have HR := Aside0.mk hr
  have HC := Aside0.mk hc
  obtain ⟨s, hs⟩ : ∃ s, smallB l = s := ⟨_, rfl⟩
  have HSm := Aside0.mk (fun w1 (h : Below w.heap.size w w1) => small_calls A c l w1 (Kd.C_below hr h) hc)
  rw [hs] at HSm
  cases s with
  | false =>
    clear hr hc hn hs
    go_enter Try.func3, Try.ntmps3
    go_wp2_with (first
      | (go_at_call 15; refine HU.out.mono ?_; rintro e w1 ⟨rfl, hB⟩; have HB1 := Aside0.mk hB; clear hB)
      | (go_at_call 16; refine (HSm.out _ HB1.out).mono ?_; rintro e w2 ⟨rfl, ⟨nd, rfl⟩⟩))
    go_ret
    exact ⟨rfl, pw_below_drewN HB1.out _⟩
  | true =>
    obtain ⟨hl, hz⟩ := smallB_ok hs
    have hall : ∀ x ∈ l, x.f3.size ≤ 2000 ∧ -9223372036854775808 ≤ x.f1 ∧ x.f1 ≤ 9223372036854775807 := fun x hx => ⟨hz x hx, hn x hx⟩
    have hok : OkT l := ⟨hl, hall⟩
    have HO := Aside0.mk hok
    have HLa := Aside0.mk (fun w1 (h : Below w.heap.size w w1) => laid_calls A c l w1 (Kd.C_below hr h) hc hok)
    clear hr hc hn hs hall hok hz hl
    go_enter Try.func3, Try.ntmps3
    go_wp2_with (first
      | (go_at_call 15; refine HU.out.mono ?_; rintro e w1 ⟨rfl, hB⟩; have HB1 := Aside0.mk hB; clear hB)
      | (go_at_call 16; refine (HSm.out _ HB1.out).mono ?_; rintro e w2 ⟨rfl, ⟨nd, rfl⟩⟩; have HB2 := Aside0.mk (pw_below_drewN HB1.out nd)))
    go_loopg [5, 6] l.length (fun kq v5 v6 w' => ∃ (x : Int), v6 = .int .i64 x ∧ Aside0 (0 ≤ x ∧ x ≤ (l.length : Int) ∧ (kq : Int) = l.length - x) ∧ Aside0 (w'.ownsRow w.heap.size 5 1 v5 (layAll (l.take x.toNat)).length (nums .u8 (layAll (l.take x.toNat)))) ∧ Aside0 (Below w.heap.size w w'))
    case atStart => exact ⟨0, rfl, ⟨by omega, by omega, by omega⟩, ⟨own_nil _ _ _ _⟩, HB2⟩
    case round =>
      clear HB1 HB2 HU HSm
      obtain ⟨x, rfl, HK, HI, HB⟩ := hrel
      have hw : wrap64 (x + 1) = x + 1 := by have := HK.out; have := HO.out.1; unfold wrap64; omega
      by_cases hlt : x < (l.length : Int)
      · have p1 := HK.out.1
        have q1 := hlt
        have hm := rdT_mem p1 hlt
        have hx := HO.out.2 _ hm
        have HS := Aside0.mk (layAll_step p1 hlt)
        obtain ⟨ad, e1, hx0, hx1, hx2, hx3, hx4⟩ := at_T27 (Kd.C_below HR.out HB.out) x p1 q1
        cases e1
        have hL := HO.out.len x.toNat
        generalize rd_T27 l x = y at *
        have HY := Aside0.mk hx
        have HL := Aside0.mk hL
        have HKK : Aside0 (0 ≤ x ∧ x < (l.length : Int) ∧ (gk : Int) = l.length - x) := ⟨by have := HK.out; omega⟩
        have c0 : decide (x < (l.length : Int)) = true := decide_eq_true hlt
        have c1 : decide (0 ≤ x) = true := decide_eq_true p1
        replace p1 := eq_true p1
        replace q1 := eq_true q1
        clear hx hm hlt hL HK
        have hk : (y.f0 = 0) ∨ (y.f0 = 3) ∨ (y.f0 = 1) ∨ (y.f0 = 2) ∨ (y.f0 ≠ 0 ∧ y.f0 ≠ 1 ∧ y.f0 ≠ 2 ∧ y.f0 ≠ 3) := by omega
        rcases hk with h | h | h | h | h
        · have HN : Aside0 (layAll (l.take (wrap64 (x + 1)).toNat) = layAll (l.take x.toNat) ++ enc y.f1) := ⟨by rw [hw, HS.out, lay1_0 h]⟩
          have d0 : (y.f0 == 0) = true := beq_iff_eq.mpr (by omega)
          clear HS h
          go_wp2_with (first | (go_at_call 17; refine (ref_Int w _ _ _ y.f1 HB.out HI.out (Nat.lt_trans HL.out (by decide)) HY.out.2.1 HY.out.2.2).mono ?_; rintro e w1 ⟨v1, rfl, hI, hB⟩; have HI1 := Aside0.mk hI; have HB1 := Aside0.mk hB; clear hI hB))
          go_roundg (gk - 1)
          case measure => have := HKK.out; omega
          case rel => exact ⟨wrap64 (x + 1), rfl, ⟨by rw [hw]; have := HKK.out; omega⟩, ⟨by rw [HN.out]; exact HI1.out⟩, HB1⟩
        · have HN : Aside0 (layAll (l.take (wrap64 (x + 1)).toNat) = layAll (l.take x.toNat) ++ enc y.f1) := ⟨by rw [hw, HS.out, lay1_3 h]⟩
          have d0 : (y.f0 == 0) = false := beq_eq_false_iff_ne.mpr (by omega)
          have d3 : (y.f0 == 3) = true := beq_iff_eq.mpr (by omega)
          clear HS h
          go_wp2_with (first | (go_at_call 17; refine (ref_Int w _ _ _ y.f1 HB.out HI.out (Nat.lt_trans HL.out (by decide)) HY.out.2.1 HY.out.2.2).mono ?_; rintro e w1 ⟨v1, rfl, hI, hB⟩; have HI1 := Aside0.mk hI; have HB1 := Aside0.mk hB; clear hI hB))
          go_roundg (gk - 1)
          case measure => have := HKK.out; omega
          case rel => exact ⟨wrap64 (x + 1), rfl, ⟨by rw [hw]; have := HKK.out; omega⟩, ⟨by rw [HN.out]; exact HI1.out⟩, HB1⟩
        · have HN : Aside0 (layAll (l.take (wrap64 (x + 1)).toNat) = layAll (l.take x.toNat) ++ [bitI y.f2]) := ⟨by rw [hw, HS.out, lay1_1 h]⟩
          have d0 : (y.f0 == 0) = false := beq_eq_false_iff_ne.mpr (by omega)
          have d3 : (y.f0 == 3) = false := beq_eq_false_iff_ne.mpr (by omega)
          have d1 : (y.f0 == 1) = true := beq_iff_eq.mpr (by omega)
          clear HS h
          go_wp2_with (first | (go_at_call 18; refine (ref_Bool w _ _ _ y.f2 HB.out HI.out (Nat.lt_trans HL.out (by decide))).mono ?_; rintro e w1 ⟨v1, rfl, hI, hB⟩; have HI1 := Aside0.mk hI; have HB1 := Aside0.mk hB; clear hI hB))
          go_roundg (gk - 1)
          case measure => have := HKK.out; omega
          case rel => exact ⟨wrap64 (x + 1), rfl, ⟨by rw [hw]; have := HKK.out; omega⟩, ⟨by rw [HN.out]; exact HI1.out⟩, HB1⟩
        · have HN : Aside0 (layAll (l.take (wrap64 (x + 1)).toNat) = layAll (l.take x.toNat) ++ enc (y.f3.size : Int) ++ bytesOf y.f3) := ⟨by rw [hw, HS.out, lay1_2 h, List.append_assoc]⟩
          have d0 : (y.f0 == 0) = false := beq_eq_false_iff_ne.mpr (by omega)
          have d3 : (y.f0 == 3) = false := beq_eq_false_iff_ne.mpr (by omega)
          have d1 : (y.f0 == 1) = false := beq_eq_false_iff_ne.mpr (by omega)
          have d2 : (y.f0 == 2) = true := beq_iff_eq.mpr (by omega)
          clear HS h
          go_wp2_with (first | (go_at_call 19; refine (ref_Text w _ _ _ y.f3 HB.out HI.out (Nat.lt_trans HL.out (by decide)) (Nat.lt_of_le_of_lt HY.out.1 (by decide))).mono ?_; rintro e w1 ⟨v1, rfl, hI, hB⟩; have HI1 := Aside0.mk hI; have HB1 := Aside0.mk hB; clear hI hB))
          go_roundg (gk - 1)
          case measure => have := HKK.out; omega
          case rel => exact ⟨wrap64 (x + 1), rfl, ⟨by rw [hw]; have := HKK.out; omega⟩, ⟨by rw [HN.out]; exact HI1.out⟩, HB1⟩
        · have HI1 := HI
          have HB1 := HB
          have HN : Aside0 (layAll (l.take (wrap64 (x + 1)).toNat) = layAll (l.take x.toNat)) := ⟨by rw [hw, HS.out, lay1_n h.1 h.2.1 h.2.2.1 h.2.2.2, List.append_nil]⟩
          have d0 : (y.f0 == 0) = false := beq_eq_false_iff_ne.mpr (by omega)
          have d3 : (y.f0 == 3) = false := beq_eq_false_iff_ne.mpr (by omega)
          have d1 : (y.f0 == 1) = false := beq_eq_false_iff_ne.mpr (by omega)
          have d2 : (y.f0 == 2) = false := beq_eq_false_iff_ne.mpr (by omega)
          clear HS h
          go_wp2
          go_roundg (gk - 1)
          case measure => have := HKK.out; omega
          case rel => exact ⟨wrap64 (x + 1), rfl, ⟨by rw [hw]; have := HKK.out; omega⟩, ⟨by rw [HN.out]; exact HI1.out⟩, HB1⟩
      · have he : x = l.length := by have := HK.out; omega
        subst he
        have c0 : decide ((l.length : Int) < (l.length : Int)) = false := decide_eq_false (by omega)
        have hI := HI.out
        rw [Int.toNat_natCast, List.take_length] at hI
        have ql := HO.out.len l.length
        rw [List.take_length] at ql
        generalize layAll l = q at *
        obtain ⟨A2, c2, rfl, hc2, hr2⟩ := own_slice_le hI
        have HQ := Aside0.mk hr2
        have H1 := Aside0.mk (Writer_Int wr.heap.size wr (wr.alloc (.cells #[.slice none 0 0] 33)) [] 5 (below_alloc (Below.refl _ wr) _) (IsW_new wr) (by simp) (by omega) (by omega))
        have s10 := str_10
        clear hI HI HK hlt hc2 hr2 ql
        have tok : True := trivial
        go_wp2_with (first
          | (go_at_call 20; refine H1.out.mono ?_; rintro e w3 ⟨rfl, hI, hB⟩; rw [List.nil_append, enc_5] at hI; have HI3 := Aside0.mk hI; have HB3 := Aside0.mk hB; clear hI hB)
          | (go_at_call 21; have _t := tok; refine (Writer_Bytes wr.heap.size wr w3 [10] HI3.out (by decide)).mono ?_; rintro e w4 ⟨v, rfl, hown, hB⟩; obtain ⟨g4, c4, rfl, hg4, hc4, hcell4, hfr4⟩ := own_one hown; have HB4 := Aside0.mk hB; have HG4 := Aside0.mk hg4; have HB5 := Aside0.mk (hB.setCell (p := ⟨g4, 0, none⟩) hg4 (.int .u8 7)); clear hown hB hg4 tok _t)
          | (go_at_call 21; refine (Writer_Bytes wr.heap.size wr (w4.setCell ⟨g4, 0, none⟩ (.int .u8 7)) [10] (IsW_below HI3.out HB5.out) (by decide)).mono ?_; rintro e w9 ⟨v, rfl, hown, hB⟩; obtain ⟨A9, c9, rfl, hc9, hr9⟩ := own_slice_le hown; have HR9 : Aside0 (ReadsInt w9 .u8 A9 1 [10]) := ⟨hr9⟩; have HBr := Aside0.mk (below_step (below_step HB3.out HB5.out) hB); have HB9 := Aside0.mk (below_step HB.out HBr.out); have HQ9 := Aside0.mk (ReadsInt.below HQ.out HBr.out); clear hown hB hc9 hr9))
        refine start_ (n := 12) (S := fun w' => ReadsInt w' .u8 A2 q.length q ∧ ReadsInt w' .u8 A9 1 [10]) (ds := []) #[false, false, false, false, false, false, false, false, false, false, false, false] (by kernel_rfl) rfl rfl ⟨HQ9.out, HR9.out⟩ (fun hHeld => ?_)
        refine pure_ (i := 0) (N := some 69) (v := ?_) (a' := ?_) #[true, false, false, false, false, false, false, false, false, false, false, false] rfl rfl (by kernel_rfl) (fun _ _ _ h => h) (Or.inl ⟨by rfl, ?_⟩) ?_ ?_
        rotate_left
        · intro w'
          go_simp
          with_reducible rfl
        rotate_left
        · simp only [Act.put, List.setIfInBounds_toArray, List.set_cons_zero, List.set_cons_succ, i64_w, i32_w]
          rfl
        refine pure_ (i := 3) (N := some 72) (v := ?_) (a' := ?_) #[true, false, false, true, false, false, false, false, false, false, false, false] rfl rfl (by kernel_rfl) (fun _ _ _ h => h) (Or.inl ⟨by rfl, ?_⟩) ?_ ?_
        rotate_left
        · intro w'
          go_simp
          with_reducible rfl
        rotate_left
        · simp only [Act.put, List.setIfInBounds_toArray, List.set_cons_zero, List.set_cons_succ, i64_w, i32_w]
          rfl
        refine take_ (i := 4) (N := some 73) (v := ?_) (a' := ?_) #[true, false, false, true, true, false, false, false, false, false, false, false] rfl rfl (by kernel_rfl) (fun _ _ _ h => h) (Or.inl ⟨by rfl, ?_⟩) hHeld ?_ ?_
        rotate_left
        · intro w' s0
          have cw := string_of_reads (c := c2) (dst := 9) Try.underlying25 Try.underlying5 Try.underlying9 s0.1
          go_simp
          with_reducible rfl
        rotate_left
        · simp only [Act.put, List.setIfInBounds_toArray, List.set_cons_zero, List.set_cons_succ, i64_w, i32_w]
          rfl
        refine one_ (i := 1) (N := some 70) #[true, true, false, true, true, false, false, false, false, false, false, false] rfl rfl (by kernel_rfl) (by decide) (fun K hK => ?_)
        refine goes_ Try.func22 (by kernel_rfl) rfl #[.slice A l.length c] (by rfl) rfl rfl (by (try simp only [List.map_toArray, List.map_cons, List.map_nil]); first | done | rfl) ?_
        refine (HLa.out _ (pw_below_drewN HB9.out 1)).mono ?_
        rintro e w10 ⟨A10, c10, rfl, hc10, hr10, hB⟩
        have HB10 := Aside0.mk (below_step (pw_below_drewN HB9.out 1) hB)
        have HR10 := Aside0.mk hr10
        have hS10 := And.intro (ReadsInt.below hHeld.1 hB) (ReadsInt.below hHeld.2 hB)
        clear hc10 hr10 hB
        refine ⟨_, rfl, ?_⟩
        refine hK.out _ _ hS10 (fun hHeld => ?_)
        clear hK K
        refine norm_ (a' := ?_) ?_ ?_
        rotate_left
        · show Act.put _ (some 70) _ = _
          simp only [Act.put, List.setIfInBounds_toArray, List.set_cons_zero, List.set_cons_succ, i64_w, i32_w]
          rfl
        refine one_ (i := 2) (N := some 71) #[true, true, true, true, true, false, false, false, false, false, false, false] rfl rfl (by kernel_rfl) (by decide) (fun K hK => ?_)
        refine value_ (v := .string (strOfNums q)) (by rfl) rfl (by have cw := string_of_reads (c := c10) (dst := 9) Try.underlying25 Try.underlying5 Try.underlying9 HR10.out; go_simp; with_reducible rfl) ?_
        refine hK.out _ _ hHeld (fun hHeld => ?_)
        clear hK K
        refine norm_ (a' := ?_) ?_ ?_
        rotate_left
        · show Act.put _ (some 71) _ = _
          simp only [Act.put, List.setIfInBounds_toArray, List.set_cons_zero, List.set_cons_succ, i64_w, i32_w]
          rfl
        refine pure_ (i := 5) (N := some 74) (v := ?_) (a' := ?_) #[true, true, true, true, true, true, false, false, false, false, false, false] rfl rfl (by kernel_rfl) (fun _ _ _ h => h) (Or.inl ⟨by rfl, ?_⟩) ?_ ?_
        rotate_left
        · intro w'
          go_simp
          with_reducible rfl
        rotate_left
        · simp only [Act.put, List.setIfInBounds_toArray, List.set_cons_zero, List.set_cons_succ, i64_w, i32_w]
          rfl
        refine pure_ (i := 6) (N := some 75) (v := ?_) (a' := ?_) #[true, true, true, true, true, true, true, false, false, false, false, false] rfl rfl (by kernel_rfl) (fun _ _ _ h => h) (Or.inl ⟨by rfl, ?_⟩) ?_ ?_
        rotate_left
        · intro w'
          go_simp
          with_reducible rfl
        rotate_left
        · simp only [Act.put, List.setIfInBounds_toArray, List.set_cons_zero, List.set_cons_succ, i64_w, i32_w]
          rfl
        refine pure_ (i := 7) (N := some 76) (v := ?_) (a' := ?_) #[true, true, true, true, true, true, true, true, false, false, false, false] rfl rfl (by kernel_rfl) (fun _ _ _ h => h) (Or.inl ⟨by rfl, ?_⟩) ?_ ?_
        rotate_left
        · intro w'
          go_simp
          with_reducible rfl
        rotate_left
        · simp only [Act.put, List.setIfInBounds_toArray, List.set_cons_zero, List.set_cons_succ, i64_w, i32_w]
          rfl
        refine take_ (i := 8) (N := some 77) (v := ?_) (a' := ?_) #[true, true, true, true, true, true, true, true, true, false, false, false] rfl rfl (by kernel_rfl) (fun _ _ _ h => h) (Or.inl ⟨by rfl, ?_⟩) hHeld ?_ ?_
        rotate_left
        · intro w' s0
          have cw := string_of_reads (c := c9) (dst := 9) Try.underlying25 Try.underlying5 Try.underlying9 s0.2
          go_simp
          with_reducible rfl
        rotate_left
        · simp only [Act.put, List.setIfInBounds_toArray, List.set_cons_zero, List.set_cons_succ, i64_w, i32_w]
          rfl
        refine pure_ (i := 9) (N := some 78) (v := ?_) (a' := ?_) #[true, true, true, true, true, true, true, true, true, true, false, false] rfl rfl (by kernel_rfl) (fun _ _ _ h => h) (Or.inl ⟨by rfl, ?_⟩) ?_ ?_
        rotate_left
        · intro w'
          go_simp
          with_reducible rfl
        rotate_left
        · simp only [Act.put, List.setIfInBounds_toArray, List.set_cons_zero, List.set_cons_succ, i64_w, i32_w]
          rfl
        refine pure_ (i := 10) (N := some 79) (v := ?_) (a' := ?_) #[true, true, true, true, true, true, true, true, true, true, true, false] rfl rfl (by kernel_rfl) (fun _ _ _ h => h) (Or.inl ⟨by rfl, ?_⟩) ?_ ?_
        rotate_left
        · intro w'
          go_simp
          with_reducible rfl
        rotate_left
        · simp only [Act.put, List.setIfInBounds_toArray, List.set_cons_zero, List.set_cons_succ, i64_w, i32_w]
          rfl
        refine pure_ (i := 11) (N := some 2) (v := ?_) (a' := ?_) #[true, true, true, true, true, true, true, true, true, true, true, true] rfl rfl (by kernel_rfl) (fun _ _ _ h => h) (Or.inl ⟨by rfl, ?_⟩) ?_ ?_
        rotate_left
        · intro w'
          go_simp
          with_reducible rfl
        rotate_left
        · simp only [Act.put, List.setIfInBounds_toArray, List.set_cons_zero, List.set_cons_succ, i64_w, i32_w]
          rfl
        refine done_ (by kernel_rfl) ?_
        all_goals go_wp2
        all_goals go_ret
        all_goals exact ⟨by first | rfl | (simp; done), by first | exact HB10.out | exact pw_below_drewN HB10.out _⟩
end Go.Proofs.Ytnlbmhojjjjpdaa.Pk
