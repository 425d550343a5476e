/- The walk of PackSticks (written by gen_sticks.py). -/
import Derived.Test.YtnlbmhojjjjpdaaPackO
namespace Go.Proofs.Ytnlbmhojjjjpdaa.Pk
open Go.RowKit Go.Proofs.YtnlbmhojjjjpdaaW.PrintWords Go.Proofs.YtnlbmhojjjjpdaaW.PrintLast Go.Proofs.YtnlbmhojjjjpdaaW.PrintMore
set_option linter.unusedVariables false
set_option linter.unusedSimpArgs false
theorem rInt_bad (bs : List Int) : rInt bs true = (0, bs, true) := by simp [rInt, rNext]
theorem rCount_bad (m : Int) (bs : List Int) : rCount m bs true = (0, bs, true) := by simp [rCount, rNext]
theorem rBool_bad (bs : List Int) : rBool bs true = (false, bs, true) := by simp [rBool]
theorem rText_bad (m : Int) (bs : List Int) : rText m bs true = ([], bs, true) := by simp [rText, rNext]
theorem rInt_stuck (b : List Int) : rInt ([128, 0] ++ b) false = (0, [128, 0] ++ b, true) := by simp [rInt, rNext, nxt]
theorem str_nil : strOfNums [] = (⟨#[]⟩ : ByteArray) := by decide +kernel
set_option maxHeartbeats 4000000 in
set_option maxRecDepth 100000 in
theorem PackSticks_big (A : Option Addr) (c : Nat) (b : List Int) (AL : Option Addr) (cl : Nat) (l : List S27) (w : World) (h : 2000 < b.length ∨ 50 < l.length) :
    Calls Try.prog 8 #[.slice A b.length c, .slice AL l.length cl] w fun e w' => e = .returned (.bool true) ∧ Below w.heap.size w w' := by
  have HU := Aside0.mk (awake_calls w)
  have dl : decide ((b.length : Int) > 2000) = true ∨ (decide ((b.length : Int) > 2000) = false ∧ decide ((l.length : Int) > 50) = true) := by
    by_cases h1 : 2000 < b.length
    · exact .inl (decide_eq_true (by omega))
    · exact .inr ⟨decide_eq_false (by omega), decide_eq_true (by omega)⟩
  clear h
  rcases dl with d1 | ⟨d1, d2⟩
  all_goals
    go_enter Try.func8, Try.ntmps8
    go_wp2_with (first | (go_at_call 15; refine HU.out.mono ?_; rintro e w1 ⟨rfl, hB⟩; have HB1 := Aside0.mk hB; clear hB))
    go_ret
    exact ⟨rfl, HB1.out⟩
set_option maxHeartbeats 8000000 in
set_option maxRecDepth 100000 in
theorem PackSticks_calls (A : Option Addr) (c : Nat) (b : List Int) (AL : Option Addr) (cl : Nat) (l : List S27) (w : World) (hc : b.length ≤ c) (hrd : ReadsInt w .u8 A b.length b) (h8 : Bytes8 b) (hr : Kd.C k27 w AL l.length l) (hcl : l.length ≤ cl) :
    Calls Try.prog 8 #[.slice A b.length c, .slice AL l.length cl] w fun e w' => e = .returned (.bool true) ∧ Below w.heap.size w w' := by
  by_cases hbig : 2000 < b.length ∨ 50 < l.length
  · exact PackSticks_big A c b AL cl l w hbig
  have hb2 : b.length ≤ 2000 := by omega
  have hl2 : l.length ≤ 50 := by omega
  have d1 : decide ((b.length : Int) > 2000) = false := decide_eq_false (by omega)
  have d2 : decide ((l.length : Int) > 50) = false := decide_eq_false (by omega)
  have HU := Aside0.mk (awake_calls w)
  obtain ⟨q, hq⟩ : ∃ q, q = [128, 0] ++ b := ⟨_, rfl⟩
  have HQ := Aside0.mk hq
  have HRB := Aside0.mk hrd
  have HBL := Aside0.mk hb2
  have HLL := Aside0.mk hl2
  have HR := Aside0.mk hr
  have HCL := Aside0.mk hcl
  have hql : q.length = b.length + 2 := by rw [hq]; simp
  have HQL : Aside0 (q.length < 1000000000) := ⟨by omega⟩
  have H8 : Aside0 (Bytes8 q) := ⟨fun x hx => by
    rw [hq] at hx
    rcases List.mem_append.mp hx with h | h
    · simp at h; omega
    · exact h8 x h⟩
  have HQW : Aside0 ((q.length : Int) = wrap64 ((b.length : Int) + 2)) := ⟨by unfold wrap64; omega⟩
  have hqq : rInt q false = (0, q, true) := by rw [hq]; exact rInt_stuck b
  have HQQ := Aside0.mk hqq
  have eqw : wrap64 ((b.length : Int) + 2) = (q.length : Int) := HQW.out.symm
  have eqw2 : ((q.length : Int) == (q.length : Int)) = true := beq_iff_eq.mpr rfl
  clear hbig hb2 hl2 hq hrd hc h8 hr hcl hql hqq
  go_enter Try.func8, Try.ntmps8
  go_wp2_with (first
    | (go_at_call 15; refine HU.out.mono ?_; rintro e w1 ⟨rfl, hB⟩; have HB1 := Aside0.mk hB; have HRB1 := Aside0.mk (ReadsInt.below HRB.out hB); clear hB)
    | (at_builtin; refine print_append_row (w0 := w1) w1.heap.size rfl (.tmp 25) (.tmp 26) 25 5 .u8 1 rfl Try.underlying25 info5 (by decide) _ [128, 0] b A b.length c rfl rfl (own_lit w1 w1.heap.size 5 .u8 [128, 0] (Nat.le_refl _) (by simp)) ((Kd.reads_of_C (enc := Value.int .u8) (d := (0 : Int)) (h1 := fun _ => rfl) (Kd.C_alloc (Kd.C_of_reads (d := (0 : Int)) (h1 := fun _ => rfl) HRB1.out) _))) (below_alloc (Below.refl _ w1) _) (by simp) (by have := HBL.out; simp; omega) ?_; intro v1 w2 hown hb1 hg1 _; have hown2 : w2.ownsRow w1.heap.size 5 1 v1 q.length (nums .u8 q) := (by rw [HQ.out]; simpa using hown); obtain ⟨A2, c2, rfl, hc2, hr2⟩ := own_slice_le hown2; have HB2 := Aside0.mk (below_step HB1.out hb1); have HPR := Aside0.mk (Pack_Read A2 c2 w2 q hc2 hr2 HQL.out); clear hown hown2 hb1 hg1 hc2 hr2)
    | (go_at_call 24; refine HPR.out.mono ?_; rintro e w3 ⟨g, A3, c3, rfl, hg, hb, hc3, hr3, hfar, hB⟩; have HF3 : Aside0 (∀ ad, A3 = some ad → ad.block ≠ g) := ⟨fun ad e => (hfar ad e).1⟩; have HG : Aside0 (w.heap.size ≤ g) := ⟨Nat.le_trans HB2.out.size hg⟩; have HB3 := Aside0.mk (below_step HB2.out hB); have HI := Aside0.mk (Reader_Int g A3 c3 w3 q false hb hc3 hr3 HF3.out H8.out HQL.out 0 q true HQQ.out); have HR3 := Aside0.mk hr3; clear hg hb hc3 hr3 hfar hB)
    | (go_at_call 25; refine HI.out.mono ?_; rintro e w4 ⟨rfl, A4, c4, q1, q2, q3, q4, q5⟩; have Hb4 := Aside0.mk q1; have HC4 := Aside0.mk q2; have HR4 := Aside0.mk (q3 w4 (reads_keep HR3.out q5.1 HF3.out)); have HF4 := Aside0.mk (q4 g HF3.out); have HB4 := Aside0.mk (below_keep HB3.out HG.out q5); clear q1 q2 q3 q4 q5)
    | (go_at_call 30; refine (Reader_Err g A4 c4 w4 q true Hb4.out).mono ?_; rintro e w5 ⟨rfl, ⟨nd, rfl⟩⟩))
  go_loopg [7, 8] l.length (fun kq v7 v8 w' => ∃ (x : Int) (A' : Option Addr) (c' : Nat), v7 = .int .i64 0 ∧ v8 = .int .i64 x ∧ Aside0 (0 ≤ x ∧ x ≤ (l.length : Int) ∧ (kq : Int) = l.length - x) ∧ Aside0 (w'.heap[g]? = some (.cells #[.slice A' q.length c', .bool true] 70 (0, 0))) ∧ Aside0 (q.length ≤ c') ∧ Aside0 (ReadsInt w' .u8 A' q.length q) ∧ Aside0 (∀ ad, A' = some ad → ad.block ≠ g) ∧ Aside0 (Below w.heap.size w w'))
  case atStart => exact ⟨0, A4, c4, rfl, rfl, ⟨by omega, by omega, by omega⟩, Hb4, HC4, HR4, HF4, ⟨by first | exact HB4.out | exact pw_below_drewN HB4.out _⟩⟩
  case round =>
    clear Hb4 HC4 HR4 HF4 HB4 HPR HI HB3 HB2 HB1 HRB1 HU HQQ
    obtain ⟨x, A', c', rfl, rfl, HK, Hb, HC, HRc, HF, HB⟩ := hrel
    have hw : wrap64 (x + 1) = x + 1 := by have := HK.out; have := HLL.out; unfold wrap64; omega
    by_cases hlt : x < (l.length : Int)
    · have p1 := HK.out.1
      have q1 := hlt
      obtain ⟨ad, e1, hx0, hx1, hx2, hx3, hx4⟩ := at_T27 (Kd.C_below HR.out HB.out) x p1 q1
      cases e1
      generalize rd_T27 l x = y at *
      have HKK : Aside0 (0 ≤ x ∧ x < (l.length : Int) ∧ (gk : Int) = l.length - x) := ⟨by have := HK.out; omega⟩
      have c0 : decide (x < (l.length : Int)) = true := decide_eq_true hlt
      have c1 : decide (0 ≤ x) = true := decide_eq_true p1
      replace p1 := eq_true p1
      replace q1 := eq_true q1
      clear hlt HK
      have hk : y.f0 = 0 ∨ y.f0 = 1 ∨ y.f0 = 2 ∨ (y.f0 ≠ 0 ∧ y.f0 ≠ 1 ∧ y.f0 ≠ 2) := by omega
      rcases hk with h | h | h | h
      · have d0 : (y.f0 == 0) = true := beq_iff_eq.mpr (by omega)
        clear h
        go_wp2_with (first | (go_at_call 25; refine (Reader_Int g A' c' _ q true Hb.out HC.out HRc.out HF.out H8.out HQL.out 0 q true (rInt_bad q)).mono ?_; rintro e w4 ⟨rfl, A4, c4, q1', q2, q3, q4, q5⟩; have Hb4 := Aside0.mk q1'; have HC4 := Aside0.mk q2; have HR4 := Aside0.mk (q3 w4 (reads_keep HRc.out q5.1 HF.out)); have HF4 := Aside0.mk (q4 g HF.out); have HB4 := Aside0.mk (below_keep HB.out HG.out q5); clear q1' q2 q3 q4 q5) | (go_at_call 31; refine (Reader_Left g A4 c4 w4 q true Hb4.out).mono ?_; rintro e w6 ⟨rfl, ⟨nd, rfl⟩⟩) | (go_at_call 30; refine (Reader_Err g A4 c4 (w4.drewN nd) q true Hb4.out).mono ?_; rintro e w7 ⟨rfl, ⟨nd2, rfl⟩⟩))
        go_roundg (gk - 1)
        case measure => have := HKK.out; omega
        case rel => exact ⟨wrap64 (x + 1), A4, c4, rfl, rfl, ⟨by rw [hw]; have := HKK.out; omega⟩, Hb4, HC4, HR4, HF4, ⟨by first | exact pw_below_drewN HB4.out _ | exact pw_below_drewN (pw_below_drewN HB4.out _) _⟩⟩
      · have d0 : (y.f0 == 0) = false := beq_eq_false_iff_ne.mpr (by omega)
        have d1 : (y.f0 == 1) = true := beq_iff_eq.mpr (by omega)
        clear h
        go_wp2_with (first | (go_at_call 27; refine (Reader_Bool g A' c' _ q true Hb.out HC.out HRc.out HF.out H8.out HQL.out false q true (rBool_bad q)).mono ?_; rintro e w4 ⟨rfl, A4, c4, q1', q2, q3, q4, q5⟩; have Hb4 := Aside0.mk q1'; have HC4 := Aside0.mk q2; have HR4 := Aside0.mk (q3 w4 (reads_keep HRc.out q5.1 HF.out)); have HF4 := Aside0.mk (q4 g HF.out); have HB4 := Aside0.mk (below_keep HB.out HG.out q5); clear q1' q2 q3 q4 q5) | (go_at_call 31; refine (Reader_Left g A4 c4 w4 q true Hb4.out).mono ?_; rintro e w6 ⟨rfl, ⟨nd, rfl⟩⟩) | (go_at_call 30; refine (Reader_Err g A4 c4 (w4.drewN nd) q true Hb4.out).mono ?_; rintro e w7 ⟨rfl, ⟨nd2, rfl⟩⟩))
        go_roundg (gk - 1)
        case measure => have := HKK.out; omega
        case rel => exact ⟨wrap64 (x + 1), A4, c4, rfl, rfl, ⟨by rw [hw]; have := HKK.out; omega⟩, Hb4, HC4, HR4, HF4, ⟨by first | exact pw_below_drewN HB4.out _ | exact pw_below_drewN (pw_below_drewN HB4.out _) _⟩⟩
      · have d0 : (y.f0 == 0) = false := beq_eq_false_iff_ne.mpr (by omega)
        have d1 : (y.f0 == 1) = false := beq_eq_false_iff_ne.mpr (by omega)
        have d2 : (y.f0 == 2) = true := beq_iff_eq.mpr (by omega)
        clear h
        have sn := str_nil
        go_wp2_with (first | (go_at_call 29; refine (Reader_Text g A' c' _ q true Hb.out HC.out HRc.out HF.out H8.out HQL.out y.f4 [] q true (rText_bad y.f4 q)).mono ?_; rintro e w4 ⟨rfl, A4, c4, q1', q2, q3, q4, q5⟩; rw [sn]; have Hb4 := Aside0.mk q1'; have HC4 := Aside0.mk q2; have HR4 := Aside0.mk (q3 w4 (reads_keep HRc.out q5.1 HF.out)); have HF4 := Aside0.mk (q4 g HF.out); have HB4 := Aside0.mk (below_keep HB.out HG.out q5); clear q1' q2 q3 q4 q5) | (go_at_call 31; refine (Reader_Left g A4 c4 w4 q true Hb4.out).mono ?_; rintro e w6 ⟨rfl, ⟨nd, rfl⟩⟩) | (go_at_call 30; refine (Reader_Err g A4 c4 (w4.drewN nd) q true Hb4.out).mono ?_; rintro e w7 ⟨rfl, ⟨nd2, rfl⟩⟩))
        go_roundg (gk - 1)
        case measure => have := HKK.out; omega
        case rel => exact ⟨wrap64 (x + 1), A4, c4, rfl, rfl, ⟨by rw [hw]; have := HKK.out; omega⟩, Hb4, HC4, HR4, HF4, ⟨by first | exact pw_below_drewN HB4.out _ | exact pw_below_drewN (pw_below_drewN HB4.out _) _⟩⟩
      · have d0 : (y.f0 == 0) = false := beq_eq_false_iff_ne.mpr (by omega)
        have d1 : (y.f0 == 1) = false := beq_eq_false_iff_ne.mpr (by omega)
        have d2 : (y.f0 == 2) = false := beq_eq_false_iff_ne.mpr (by omega)
        clear h
        go_wp2_with (first | (go_at_call 33; refine (Reader_Count g A' c' _ q true Hb.out HC.out HRc.out HF.out H8.out HQL.out y.f4 0 q true (rCount_bad y.f4 q)).mono ?_; rintro e w4 ⟨rfl, A4, c4, q1', q2, q3, q4, q5⟩; have Hb4 := Aside0.mk q1'; have HC4 := Aside0.mk q2; have HR4 := Aside0.mk (q3 w4 (reads_keep HRc.out q5.1 HF.out)); have HF4 := Aside0.mk (q4 g HF.out); have HB4 := Aside0.mk (below_keep HB.out HG.out q5); clear q1' q2 q3 q4 q5) | (go_at_call 31; refine (Reader_Left g A4 c4 w4 q true Hb4.out).mono ?_; rintro e w6 ⟨rfl, ⟨nd, rfl⟩⟩) | (go_at_call 30; refine (Reader_Err g A4 c4 (w4.drewN nd) q true Hb4.out).mono ?_; rintro e w7 ⟨rfl, ⟨nd2, rfl⟩⟩))
        go_roundg (gk - 1)
        case measure => have := HKK.out; omega
        case rel => exact ⟨wrap64 (x + 1), A4, c4, rfl, rfl, ⟨by rw [hw]; have := HKK.out; omega⟩, Hb4, HC4, HR4, HF4, ⟨by first | exact pw_below_drewN HB4.out _ | exact pw_below_drewN (pw_below_drewN HB4.out _) _⟩⟩
    · have he : x = l.length := by have := HK.out; omega
      subst he
      have c0 : decide ((l.length : Int) < (l.length : Int)) = false := decide_eq_false (by omega)
      clear HK hlt
      go_wp2
      go_ret
      exact ⟨rfl, HB.out⟩
end Go.Proofs.Ytnlbmhojjjjpdaa.Pk
