/- The walk of PackBack. -/
import Derived.Test.YtnlbmhojjjjpdaaPackM
import Derived.Test.YtnlbmhojjjjpdaaPkmalthouselaw03small
namespace Go.Proofs.Ytnlbmhojjjjpdaa.Pk
open Go.RowKit Go.Proofs.YtnlbmhojjjjpdaaW.PrintWords Go.Proofs.YtnlbmhojjjjpdaaW.PrintLast Go.Proofs.YtnlbmhojjjjpdaaW.PrintMore
set_option linter.unusedVariables false
set_option linter.unusedSimpArgs false
def smallB (l : List S27) : Bool := decide (l.length ≤ 200) && l.all (fun x => decide (x.f3.size ≤ 2000))
theorem small_l0 (l : List S27) (hl : l.length ≤ 200) : ∀ (m i : Nat), i + m = l.length → malthouselaw03_small.l0 (m + 1) l (i : Int) = some ((l.drop i).all (fun x => decide (x.f3.size ≤ 2000))) := by
  intro m
  induction m with
  | zero =>
    intro i hi
    rw [malthouselaw03_small.l0, if_neg (by omega), List.drop_eq_nil_of_le (by omega)]; rfl
  | succ m ih =>
    intro i hi
    have hlt : i < l.length := by omega
    have hd := drop_rdT (l := l) (i := (i : Int)) (by omega) (by omega)
    rw [Int.toNat_natCast, show ((i : Int) + 1).toNat = i + 1 from by omega] at hd
    rw [malthouselaw03_small.l0, if_pos (by omega), if_pos (by omega), hd, List.all_cons]
    by_cases h : ((rd_T27 l (i : Int)).f3.size : Int) > 2000
    · rw [if_pos h, decide_eq_false (by omega)]; rfl
    · rw [if_neg h, decide_eq_true (by omega), Bool.true_and, show wrap64 ((i : Int) + 1) = ((i + 1 : Nat) : Int) from by unfold wrap64; omega]
      exact ih (i + 1) (by omega)
theorem small_calls (A : Option Addr) (c : Nat) (l : List S27) (w : World) (hr : Kd.C k27 w A l.length l) (hc : l.length ≤ c) :
    Calls Try.prog 16 #[.slice A l.length c] w fun e w' => e = .returned (.bool (smallB l)) ∧ Drawn0 w w' := by
  refine malthouselaw03_small.calls (l.length + 1) A c l (smallB l) w hr hc ?_
  unfold malthouselaw03_small.f smallB
  by_cases h : (l.length : Int) > 200
  · rw [if_pos h, decide_eq_false (by omega)]; rfl
  · rw [if_neg h, decide_eq_true (by omega), Bool.true_and]
    exact small_l0 l (by omega) l.length 0 (by omega)
theorem smallB_ok {l : List S27} (h : smallB l = true) : l.length ≤ 200 ∧ ∀ x ∈ l, x.f3.size ≤ 2000 := by
  unfold smallB at h
  rw [Bool.and_eq_true, List.all_eq_true] at h
  exact ⟨of_decide_eq_true h.1, fun x hx => of_decide_eq_true (h.2 x hx)⟩
set_option maxHeartbeats 4000000 in
set_option maxRecDepth 100000 in
theorem PackBack_calls (A : Option Addr) (c : Nat) (l : List S27) (cut : Int) (w : World) (hr : Kd.C k27 w A l.length l) (hc : l.length ≤ c) (hn : ∀ x ∈ l, -9223372036854775808 ≤ x.f1 ∧ x.f1 ≤ 9223372036854775807) :
    Calls Try.prog 4 #[.slice A l.length c, .int .i64 cut] w fun e w' => e = .returned (.bool true) ∧ Below w.heap.size w w' := by
  have HU := Aside0.mk (awake_calls w)
  have HR := Aside0.mk hr
  have HC := Aside0.mk hc
  obtain ⟨s, hs⟩ : ∃ s, smallB l = s := ⟨_, rfl⟩
  have HSm := Aside0.mk (fun w1 (h : Below w.heap.size w w1) => small_calls A c l w1 (Kd.C_below hr h) hc)
  rw [hs] at HSm
  cases s with
  | false =>
    clear hr hc hn hs
    go_enter Try.func4, Try.ntmps4
    go_wp2_with (first
      | (go_at_call 15; refine HU.out.mono ?_; rintro e w1 ⟨rfl, hB⟩; have HB1 := Aside0.mk hB; clear hB)
      | (go_at_call 16; refine (HSm.out _ HB1.out).mono ?_; rintro e w2 ⟨rfl, ⟨nd, rfl⟩⟩))
    go_ret
    exact ⟨rfl, pw_below_drewN HB1.out _⟩
  | true =>
    obtain ⟨hl, hz⟩ := smallB_ok hs
    have hall : ∀ x ∈ l, x.f3.size ≤ 2000 ∧ -9223372036854775808 ≤ x.f1 ∧ x.f1 ≤ 9223372036854775807 := fun x hx => ⟨hz x hx, hn x hx⟩
    have hok : OkT l := ⟨hl, hall⟩
    have HL := Aside0.mk (fun w1 (h : Below w.heap.size w w1) => laid_calls A c l w1 (Kd.C_below hr h) hc hok)
    have HTL := Aside0.mk (taken_laid l hall)
    have HTC := Aside0.mk (fun p q => taken_cut l p q hall)
    have hlen := hok.len l.length
    rw [List.take_length] at hlen
    have h8 : Bytes8 (layAll l) := by
      intro x hx
      unfold layAll at hx
      obtain ⟨y, hy, hxy⟩ := List.mem_flatMap.mp hx
      have hy := hall y hy
      unfold lay1 at hxy
      split at hxy
      · exact enc_bytes y.f1 hy.2.1 hy.2.2 x hxy
      · split at hxy
        · simp at hxy; subst hxy; cases y.f2 <;> simp [bitI]
        · split at hxy
          · rcases List.mem_append.mp hxy with h | h
            · exact enc_bytes _ (by omega) (by omega) x h
            · exact bytesOf_8 _ x h
          · simp at hxy
    have HT := Aside0.mk (fun A1 c1 bs w1 hc1 hr1 h81 hl1 (h : Below w.heap.size w w1) => taken_calls A1 c1 bs A c l w1 hc1 hr1 h81 hl1 (Kd.C_below hr h) hc (Nat.lt_of_le_of_lt hl (by decide)))
    have HLL := Aside0.mk hl
    generalize layAll l = bs at *
    have H8 := Aside0.mk h8
    have HLE := Aside0.mk hlen
    clear hr hc hn hs hall hok hz h8 hl
    have arms : True := trivial
    by_cases h60 : 60 < l.length
    · have d60 : decide ((l.length : Int) > 60) = true := decide_eq_true (by omega)
      clear h60 hlen
      go_enter Try.func4, Try.ntmps4
      go_wp2_with (first
        | (go_at_call 15; refine HU.out.mono ?_; rintro e w1 ⟨rfl, hB⟩; have HB1 := Aside0.mk hB; clear hB)
        | (go_at_call 16; refine (HSm.out _ HB1.out).mono ?_; rintro e w2 ⟨rfl, ⟨nd, rfl⟩⟩))
      go_ret
      exact ⟨rfl, pw_below_drewN HB1.out _⟩
    · have d60 : decide ((l.length : Int) > 60) = false := decide_eq_false (by omega)
      clear h60
      by_cases h4 : 4000 < bs.length
      · have d4 : decide ((bs.length : Int) > 4000) = true := decide_eq_true (by omega)
        clear h4 hlen
        go_enter Try.func4, Try.ntmps4
        go_wp2_with (first
          | (go_at_call 15; refine HU.out.mono ?_; rintro e w1 ⟨rfl, hB⟩; have HB1 := Aside0.mk hB; clear hB)
          | (go_at_call 16; refine (HSm.out _ HB1.out).mono ?_; rintro e w2 ⟨rfl, ⟨nd, rfl⟩⟩; have HB2 := Aside0.mk (pw_below_drewN HB1.out nd))
          | (go_at_call 22; refine (HL.out _ HB2.out).mono ?_; rintro e w3 ⟨A1, c1, rfl, hc1, hr1, hB⟩; have HB3 := Aside0.mk (below_step HB2.out hB); have HC1 := Aside0.mk hc1; have HR1 := Aside0.mk hr1; clear hc1 hr1 hB))
        go_ret
        exact ⟨rfl, HB3.out⟩
      · have d4 : decide ((bs.length : Int) > 4000) = false := decide_eq_false (by omega)
        clear h4
        by_cases hcut : cut < 0 ∨ (bs.length : Int) ≤ cut
        · have dc : decide (cut < 0) = true ∨ (decide (cut < 0) = false ∧ decide (cut ≥ (bs.length : Int)) = true) := by
            by_cases h0 : cut < 0
            · exact .inl (decide_eq_true h0)
            · exact .inr ⟨decide_eq_false h0, decide_eq_true (by omega)⟩
          clear hcut hlen
          rcases dc with dc | ⟨dc, dc2⟩
          all_goals
            go_enter Try.func4, Try.ntmps4
            go_wp2_with (first
              | (go_at_call 15; refine HU.out.mono ?_; rintro e w1 ⟨rfl, hB⟩; have HB1 := Aside0.mk hB; clear hB)
              | (go_at_call 16; refine (HSm.out _ HB1.out).mono ?_; rintro e w2 ⟨rfl, ⟨nd, rfl⟩⟩; have HB2 := Aside0.mk (pw_below_drewN HB1.out nd))
              | (go_at_call 22; refine (HL.out _ HB2.out).mono ?_; rintro e w3 ⟨A1, c1, rfl, hc1, hr1, hB⟩; have HB3 := Aside0.mk (below_step HB2.out hB); have HC1 := Aside0.mk hc1; have HR1 := Aside0.mk hr1; clear hc1 hr1 hB)
              | (go_at_call 23; refine (HT.out A1 c1 bs w3 HC1.out HR1.out H8.out (Nat.lt_trans HLE.out (by decide)) HB3.out).mono ?_; rintro e w4 ⟨rfl, hB⟩; rw [HTL.out]; have HB4 := Aside0.mk (below_step HB3.out hB); clear hB))
            go_ret
            exact ⟨rfl, HB4.out⟩
        · have dc : decide (cut < 0) = false := decide_eq_false (by omega)
          have dc2 : decide (cut ≥ (bs.length : Int)) = false := decide_eq_false (by omega)
          have h0 : 0 ≤ cut := by omega
          have h1 : cut ≤ (bs.length : Int) := by omega
          obtain ⟨i, hi, hz0, hz1, hz2⟩ := info_parts info5
          have HT0 := Aside0.mk (fun A1 c1 (hc1 : bs.length ≤ c1) => (print_take_int (k := .u8) 25 5 Try.underlying25 hi hz1 A1 c1 bs cut h0 h1 hc1).1)
          have HRT := Aside0.mk (fun A1 w2 (h : ReadsInt w2 .u8 A1 bs.length bs) => reads_take2 (v := cut) h0 h1 h)
          have hq : bs.drop cut.toNat ≠ [] := by intro h; have := congrArg List.length h; rw [List.length_drop] at this; simp at this; omega
          have HTC2 := Aside0.mk (HTC.out (bs.take cut.toNat) (bs.drop cut.toNat) (List.take_append_drop _ _).symm hq)
          have HTl : Aside0 ((bs.take cut.toNat).length ≤ bs.length) := ⟨by rw [List.length_take]; omega⟩
          have H8t : Aside0 (Bytes8 (bs.take cut.toNat)) := ⟨fun x hx => H8.out x (List.mem_of_mem_take hx)⟩
          obtain ⟨t, ht⟩ : ∃ t, t = bs.take cut.toNat := ⟨_, rfl⟩
          rw [← ht] at HT0 HRT HTC2 HTl H8t
          clear hi hz0 hz1 hz2 hcut h0 h1 hq hlen HTC ht
          have tok : True := trivial
          go_enter Try.func4, Try.ntmps4
          go_wp2_with (first
            | (go_at_call 15; refine HU.out.mono ?_; rintro e w1 ⟨rfl, hB⟩; have HB1 := Aside0.mk hB; clear hB)
            | (go_at_call 16; refine (HSm.out _ HB1.out).mono ?_; rintro e w2 ⟨rfl, ⟨nd, rfl⟩⟩; have HB2 := Aside0.mk (pw_below_drewN HB1.out nd))
            | (go_at_call 22; refine (HL.out _ HB2.out).mono ?_; rintro e w3 ⟨A1, c1, rfl, hc1, hr1, hB⟩; have HB3 := Aside0.mk (below_step HB2.out hB); have HC1 := Aside0.mk hc1; have HR1 := Aside0.mk hr1; have hT := HT0.out A1 c1 hc1; clear hc1 hr1 hB)
            | (go_at_call 23; have _t := tok; refine (HT.out A1 c1 bs w3 HC1.out HR1.out H8.out (Nat.lt_trans HLE.out (by decide)) HB3.out).mono ?_; rintro e w4 ⟨rfl, hB⟩; rw [HTL.out]; have HB4 := Aside0.mk (below_step HB3.out hB); have HR4 := Aside0.mk (HRT.out A1 w4 (ReadsInt.below HR1.out hB)); clear hB tok _t)
            | (go_at_call 23; refine (HT.out A1 c1 t w4 (Nat.le_trans HTl.out HC1.out) HR4.out H8t.out (Nat.lt_of_le_of_lt HTl.out (Nat.lt_trans HLE.out (by decide))) HB4.out).mono ?_; rintro e w5 ⟨rfl, hB⟩; rw [HTC2.out]; have HB5 := Aside0.mk (below_step HB4.out hB); clear hB))
          go_ret
          exact ⟨rfl, HB5.out⟩
end Go.Proofs.Ytnlbmhojjjjpdaa.Pk
