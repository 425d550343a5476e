/- Texts of one claim, slimmed and merged by slim.py. -/
import Derived.Lib.OthersKept
import Derived.Lib.TrimU
import Derived.Test.YtiaccdaeomaogaaDoorA4
import Derived.Test.YtiaccdaeomaogaaDoorA6
namespace Go.Proofs.YtiaccdaeomaogaaDoor.F
open Go.RowKit Go.Proofs.YtiaccdaeomaogaaDoorW.PrintWords Go.Proofs.YtiaccdaeomaogaaDoorW.PrintLast Go.Proofs.YtiaccdaeomaogaaDoorW.PrintMore
attribute [local go_sem] max2_int min2_int max_two min_two max_three min_three max_four min_four   -- for this text's walks alone
set_option linter.unusedVariables false
set_option linter.unusedSimpArgs false
def prog_Ends.l0 : Nat → List (S67) → Int → Int → Option (Bool)
  | 0, _, _, _ => none
  | k + 1, x5, x6, x7 => if x7 < x6 then (if 0 ≤ x7 then (if x7 < (x5.length : Int) then (if ((rd_T67 x5 x7).f0) = 6 then (if ((rd_T67 x5 x7).f4) ≤ x7 then (some false) else (prog_Ends.l0 k x5 x6 (wrap64 (x7 + 1)))) else (prog_Ends.l0 k x5 x6 (wrap64 (x7 + 1)))) else (none)) else (none)) else (some true)
def prog_Ends.f (k : Nat) (l0 : List (S67)) : Option (Bool) := prog_Ends.l0 k l0 (l0.length : Int) 0
theorem prog_Ends.mono_l : ∀ k, (∀ y0 y1 y2, LeO (prog_Ends.l0 k y0 y1 y2) (prog_Ends.l0 (k + 1) y0 y1 y2))
  | 0 => fun _ _ _ r h => by simp [prog_Ends.l0] at h
  | k + 1 => by
    have ih0 := prog_Ends.mono_l k
    intro y0 y1 y2
    unfold prog_Ends.l0
    repeat' first
    | (with_reducible exact ih0 _ _ _)
    | (with_reducible exact LeO.refl _)
    | (with_reducible exact LeO.none _)
    | (with_reducible refine LeO.ite ?_ ?_)
    | (with_reducible refine LeO.bind ?_ (fun _ => ?_))
    | exact ih0 _ _ _
    | exact LeO.none _
    | refine LeO.ite ?_ ?_
    | refine LeO.bind ?_ (fun _ => ?_)
theorem prog_Ends.mono : ∀ a0 k, LeO (prog_Ends.f k a0) (prog_Ends.f (k + 1) a0) := by
  intro a0 k
  have ih0 := prog_Ends.mono_l k
  unfold prog_Ends.f
  repeat' first
      | (with_reducible exact ih0 _ _ _)
      | (with_reducible exact LeO.refl _)
      | (with_reducible exact LeO.none _)
      | (with_reducible refine LeO.ite ?_ ?_)
      | (with_reducible refine LeO.bind ?_ (fun _ => ?_))
      | exact ih0 _ _ _
      | exact LeO.none _
      | refine LeO.ite ?_ ?_
      | refine LeO.bind ?_ (fun _ => ?_)
set_option maxHeartbeats 8000000 in
set_option maxRecDepth 100000 in
theorem prog_Ends.calls (k : Nat) (A0 : Option Addr) (c0 : Nat) (l0 : List (S67)) (r : Bool) (w : World) (hr0 : Kd.C k67 w A0 l0.length l0) (hc0 : l0.length ≤ c0) (h : prog_Ends.f k l0 = some r) :
    Calls Tryd.prog 46 #[.slice A0 l0.length c0] w fun e w' => e = .returned (.bool r) ∧ Below w.heap.size w w' := by
  have hu67 := Tryd.underlying67
  have HR0 := Aside0.mk hr0
  have HC0 := Aside0.mk hc0
  clear hr0 hc0
  have HB := Aside0.mk (Below.refl w.heap.size w)
  have H : (prog_Ends.l0 k l0 (l0.length : Int) 0) = some r := h
  clear h
  have H' := Aside0.mk H
  clear H
  go_enter Tryd.func46, Tryd.ntmps46
  go_wp2
  go_loopg [7] k (fun kq v7 w' => ∃ (x7_1 : Int), v7 = .int .i64 x7_1 ∧ Aside0 (prog_Ends.l0 kq l0 (l0.length : Int) x7_1 = some r) ∧ Aside0 (kq ≤ k) ∧ Aside0 (Below w.heap.size w w'))
  case atStart => exact ⟨(0), qv, H', ⟨Nat.le_refl _⟩, qB⟩
  case round =>
    clear H'
    obtain ⟨x7_1, rfl, HA, HK1, HB⟩ := hrel
    cases gk with
    | zero => exact absurd HA.out (by simp [prog_Ends.l0])
    | succ k1 =>
      have H := HA.out
      clear HA
      simp only [prog_Ends.l0] at H
      by_cases c2 : x7_1 < (l0.length : Int)
      · rw [if_pos c2] at H
        have c2b0 : decide (x7_1 < (l0.length : Int)) = true := decide_eq_true c2
        clear c2
        by_cases c3 : 0 ≤ x7_1
        · rw [if_pos c3] at H
          have c3b0 : decide (0 ≤ x7_1) = true := decide_eq_true c3
          clear c3
          by_cases c4 : x7_1 < (l0.length : Int)
          · rw [if_pos c4] at H
            have c4b0 : decide (x7_1 < (l0.length : Int)) = true := decide_eq_true c4
            clear c4
            by_cases c5 : ((rd_T67 l0 x7_1).f0) = 6
            · rw [if_pos c5] at H
              obtain ⟨c5b0, c5b1⟩ := qe c5
              clear c5
              by_cases c6 : ((rd_T67 l0 x7_1).f4) ≤ x7_1
              · rw [if_pos c6] at H
                have c6b0 : decide (((rd_T67 l0 x7_1).f4) ≤ x7_1) = true := decide_eq_true c6
                clear c6
                obtain rfl := Option.some.inj H
                have p101 : 0 ≤ (x7_1 : Int) := qa
                have q101 : x7_1 < (l0.length : Int) := qa
                obtain ⟨ad101, A101_6, c101_6, e101, hx101_0, hx101_1, hx101_2, hx101_3, hx101_4, hx101_5, hx101_6, hx101_7, hl101_6, hi101_6⟩ := at_T67 HR0.out x7_1 p101 q101
                cases e101
                replace hx101_0 := qc HB.out hx101_0
                replace hx101_1 := qc HB.out hx101_1
                replace hx101_2 := qc HB.out hx101_2
                replace hx101_3 := qc HB.out hx101_3
                replace hx101_4 := qc HB.out hx101_4
                replace hx101_5 := qc HB.out hx101_5
                replace hx101_6 := qc HB.out hx101_6
                replace hx101_7 := qc HB.out hx101_7
                have HR101_6 := Aside0.mk hi101_6
                have HC101_6 := Aside0.mk hl101_6
                clear hi101_6 hl101_6
                replace p101 := eq_true p101
                replace q101 := eq_true q101
                go_wp2_with (first | ((with_reducible refine gate_dst (N := 4) rfl ?_); refine box_event ?hg (N := 4) ?hd (cs := #[.int .i64 0, .string (⟨#[]⟩ : ByteArray), .string (⟨#[]⟩ : ByteArray), .int .i64 0, .int .i64 0, .string (⟨#[]⟩ : ByteArray), .slice none 0 0, .int .i64 0]) (t := 67) ?hr ?_; (case hd => rfl); (case hg => rfl); (case hr => first | (go_simp; done) | (go_simp; rfl)); intro gb102 hg w7 hbox hb; have n0_ := qs hb; have n1_ := Aside0.mk (hbox); have n2_ := Aside0.mk ((by rw [hg]; exact (below_size qb) : w.heap.size ≤ gb102)); have n3_ := Aside0.mk ((by rw [hg]; exact (below_size qb) : w.heap.size ≤ gb102)); clear HB; have HB := n0_; have BK102 := n1_; have GW102 := n2_; have GE102 := n3_; clear n0_ n1_ n2_ n3_; clear hb hbox hg; obtain ⟨_, _, _, _, _, _, _, _, _, _, _, _, _, _, _, _⟩ := q8 BK102.out))
                go_ret
                exact qr
              rw [if_neg c6] at H
              have c6b0 : decide (((rd_T67 l0 x7_1).f4) ≤ x7_1) = false := decide_eq_false c6
              clear c6
              have H' := Aside0.mk H
              clear H
              have p101 : 0 ≤ (x7_1 : Int) := qa
              have q101 : x7_1 < (l0.length : Int) := qa
              obtain ⟨ad101, A101_6, c101_6, e101, hx101_0, hx101_1, hx101_2, hx101_3, hx101_4, hx101_5, hx101_6, hx101_7, hl101_6, hi101_6⟩ := at_T67 HR0.out x7_1 p101 q101
              cases e101
              replace hx101_0 := qc HB.out hx101_0
              replace hx101_1 := qc HB.out hx101_1
              replace hx101_2 := qc HB.out hx101_2
              replace hx101_3 := qc HB.out hx101_3
              replace hx101_4 := qc HB.out hx101_4
              replace hx101_5 := qc HB.out hx101_5
              replace hx101_6 := qc HB.out hx101_6
              replace hx101_7 := qc HB.out hx101_7
              have HR101_6 := Aside0.mk hi101_6
              have HC101_6 := Aside0.mk hl101_6
              clear hi101_6 hl101_6
              replace p101 := eq_true p101
              replace q101 := eq_true q101
              go_wp2_with (first | ((with_reducible refine gate_dst (N := 4) rfl ?_); refine box_event ?hg (N := 4) ?hd (cs := #[.int .i64 0, .string (⟨#[]⟩ : ByteArray), .string (⟨#[]⟩ : ByteArray), .int .i64 0, .int .i64 0, .string (⟨#[]⟩ : ByteArray), .slice none 0 0, .int .i64 0]) (t := 67) ?hr ?_; (case hd => rfl); (case hg => rfl); (case hr => first | (go_simp; done) | (go_simp; rfl)); intro gb102 hg w9 hbox hb; have n0_ := qs hb; have n1_ := Aside0.mk (hbox); have n2_ := Aside0.mk ((by rw [hg]; exact (below_size qb) : w.heap.size ≤ gb102)); have n3_ := Aside0.mk ((by rw [hg]; exact (below_size qb) : w.heap.size ≤ gb102)); clear HB; have HB := n0_; have BK102 := n1_; have GW102 := n2_; have GE102 := n3_; clear n0_ n1_ n2_ n3_; clear hb hbox hg; obtain ⟨_, _, _, _, _, _, _, _, _, _, _, _, _, _, _, _⟩ := q8 BK102.out))
              go_roundg k1
              case measure => have := HK1.out; omega
              case rel => exact ⟨(wrap64 (x7_1 + 1)), qv, H', ⟨by have := HK1.out; omega⟩, qB⟩
            rw [if_neg c5] at H
            obtain ⟨c5b0, c5b1⟩ := qd c5
            have H' := Aside0.mk H
            clear H
            have p101 : 0 ≤ (x7_1 : Int) := qa
            have q101 : x7_1 < (l0.length : Int) := qa
            obtain ⟨ad101, A101_6, c101_6, e101, hx101_0, hx101_1, hx101_2, hx101_3, hx101_4, hx101_5, hx101_6, hx101_7, hl101_6, hi101_6⟩ := at_T67 HR0.out x7_1 p101 q101
            cases e101
            replace hx101_0 := qc HB.out hx101_0
            replace hx101_1 := qc HB.out hx101_1
            replace hx101_2 := qc HB.out hx101_2
            replace hx101_3 := qc HB.out hx101_3
            replace hx101_4 := qc HB.out hx101_4
            replace hx101_5 := qc HB.out hx101_5
            replace hx101_6 := qc HB.out hx101_6
            replace hx101_7 := qc HB.out hx101_7
            have HR101_6 := Aside0.mk hi101_6
            have HC101_6 := Aside0.mk hl101_6
            clear hi101_6 hl101_6
            replace p101 := eq_true p101
            replace q101 := eq_true q101
            go_wp2_with (first | ((with_reducible refine gate_dst (N := 4) rfl ?_); refine box_event ?hg (N := 4) ?hd (cs := #[.int .i64 0, .string (⟨#[]⟩ : ByteArray), .string (⟨#[]⟩ : ByteArray), .int .i64 0, .int .i64 0, .string (⟨#[]⟩ : ByteArray), .slice none 0 0, .int .i64 0]) (t := 67) ?hr ?_; (case hd => rfl); (case hg => rfl); (case hr => first | (go_simp; done) | (go_simp; rfl)); intro gb102 hg w11 hbox hb; have n0_ := qs hb; have n1_ := Aside0.mk (hbox); have n2_ := Aside0.mk ((by rw [hg]; exact (below_size qb) : w.heap.size ≤ gb102)); have n3_ := Aside0.mk ((by rw [hg]; exact (below_size qb) : w.heap.size ≤ gb102)); clear HB; have HB := n0_; have BK102 := n1_; have GW102 := n2_; have GE102 := n3_; clear n0_ n1_ n2_ n3_; clear hb hbox hg; obtain ⟨_, _, _, _, _, _, _, _, _, _, _, _, _, _, _, _⟩ := q8 BK102.out))
            go_roundg k1
            case measure => have := HK1.out; omega
            case rel => exact ⟨(wrap64 (x7_1 + 1)), qv, H', ⟨by have := HK1.out; omega⟩, qB⟩
          rw [if_neg c4] at H
          exact absurd H (by simp)
        rw [if_neg c3] at H
        exact absurd H (by simp)
      rw [if_neg c2] at H
      have c2b0 : decide (x7_1 < (l0.length : Int)) = false := decide_eq_false c2
      clear c2
      obtain rfl := Option.some.inj H
      go_wp2
      go_ret
      exact qr
theorem eqA57 (d : Nat) (w : World) (x0 y0 : Int) (x1 y1 : Int) :
    (Op.equalIn (d + 2) 57 (.agg #[.int .i64 x0, .int .i64 x1]) (.agg #[.int .i64 y0, .int .i64 y1])).run Tryd.prog w = .ok (x0 == y0 && (x1 == y1)) w := by
  refine eqA_of Tryd.underlying57 (by kernel_rfl) ?_
  refine eqf_cons (by rfl) (by go_simp; rfl) (by go_simp; rfl) (by go_simp) ?_
  exact eqf_last (by rfl) (by go_simp; rfl) (by go_simp; rfl) (by go_simp)
theorem eqA72 (d : Nat) (w : World) (x0 y0 : Int) (x1 y1 : ByteArray) (x2 y2 : ByteArray) (x3 y3 : Int) :
    (Op.equalIn (d + 2) 72 (.agg #[.int .i64 x0, .string x1, .string x2, .int .i64 x3]) (.agg #[.int .i64 y0, .string y1, .string y2, .int .i64 y3])).run Tryd.prog w = .ok (x0 == y0 && (x1.toList == y1.toList && (x2.toList == y2.toList && (x3 == y3)))) w := by
  refine eqA_of Tryd.underlying72 (by kernel_rfl) ?_
  refine eqf_cons (by rfl) (by go_simp; rfl) (by go_simp; rfl) (by go_simp) ?_
  refine eqf_cons (by rfl) (by go_simp; rfl) (by go_simp; rfl) (by go_simp) ?_
  refine eqf_cons (by rfl) (by go_simp; rfl) (by go_simp; rfl) (by go_simp) ?_
  exact eqf_last (by rfl) (by go_simp; rfl) (by go_simp; rfl) (by go_simp)
def quoteFrom (s : ByteArray) : Nat → Nat → Bool
  | 0, _ => true
  | g + 1, pos => if pos < s.size then (if ((Utf8.decode s pos).1 : Int) < 32 ∨ ((Utf8.decode s pos).1 : Int) = 34 then false else quoteFrom s g (pos + (Utf8.decode s pos).2)) else true
theorem quoteFrom_end (s : ByteArray) (g pos : Nat) (h : ¬ pos < s.size) : quoteFrom s g pos = true := by
  cases g <;> simp [quoteFrom, h]
def lex_Quote.f (a0 : ByteArray) : Option (ByteArray × Bool) := if a0.size + 2 ≤ 9223372036854775807 then (if Lib.validD a0.data.toList = true then (if (Lib.runeCount a0 : Int) > 20 then some ((⟨#[]⟩ : ByteArray), false) else (if quoteFrom a0 a0.size 0 = true then some (((⟨#[34]⟩ : ByteArray) ++ a0) ++ (⟨#[34]⟩ : ByteArray), true) else some ((⟨#[]⟩ : ByteArray), false))) else some ((⟨#[]⟩ : ByteArray), false)) else none
set_option maxHeartbeats 8000000 in
set_option maxRecDepth 100000 in
theorem lex_Quote.calls (a0 : ByteArray) (r1 : ByteArray) (r2 : Bool) (w : World) (h : lex_Quote.f a0 = some (r1, r2)) (hT : UT w) :
  Calls Tryd.prog 105 #[.string a0] w fun e w' => e = .returned (.tuple #[.string r1, .bool r2]) ∧ Below w.heap.size w w' := by
 unfold lex_Quote.f at h
 by_cases hs : a0.size + 2 ≤ 9223372036854775807
 case neg => rw [if_neg hs] at h; cases h
 rw [if_pos hs] at h
 obtain ⟨v, hv⟩ : ∃ v, Lib.validD a0.data.toList = v := ⟨_, rfl⟩
 have AV : Aside0 (utf8_ValidString.f a0 = some v) := ⟨by unfold utf8_ValidString.f; rw [if_pos (by omega), hv]⟩
 rw [hv] at h
 have HT0 := Aside0.mk hT
 have HS := Aside0.mk hs
 clear hT hs hv
 cases v with
 | false =>
  rw [if_neg (by decide)] at h
  obtain ⟨rfl, rfl⟩ := Prod.mk.inj (Option.some.inj h)
  clear h
  go_enter Tryd.func105, Tryd.ntmps105
  go_wp2_with (first | (go_at_call 118; refine (utf8_ValidString.calls a0 false _ AV.out HT0.out).mono ?_; rintro e w1 ⟨rfl, hb1⟩))
  go_ret2
  exact ⟨rfl, by repeat (first | exact hb1 | apply below_drew1 | apply pw_below_drewN)⟩
 | true =>
 rw [if_pos rfl] at h
 obtain ⟨n, hn⟩ : ∃ n : Nat, Lib.runeCount a0 = n := ⟨_, rfl⟩
 have AC : Aside0 (utf8_RuneCountInString.f a0 = some (n : Int)) := ⟨by unfold utf8_RuneCountInString.f; rw [if_pos (by have := HS.out; omega), hn]⟩
 rw [hn] at h
 clear hn
 by_cases hc : (n : Int) > 20
 ·rw [if_pos hc] at h
  obtain ⟨rfl, rfl⟩ := Prod.mk.inj (Option.some.inj h)
  have d1 : decide (20 < (n : Int)) = true := decide_eq_true hc
  have d2 : decide (20 < n) = true := decide_eq_true (by omega)
  clear h hc
  go_enter Tryd.func105, Tryd.ntmps105
  go_wp2_with (first | (go_at_call 118; refine (utf8_ValidString.calls a0 true _ AV.out HT0.out).mono ?_; rintro e w1 ⟨rfl, hb1⟩; have HB1 := Aside0.mk hb1; clear hb1) | (go_at_call 120; refine (utf8_RuneCountInString.calls a0 (n : Int) _ AC.out).mono ?_; rintro e w2 ⟨rfl, hb2⟩; have HB2 := Aside0.mk hb2; clear hb2))
  go_ret2
  exact ⟨rfl, below_step HB1.out HB2.out⟩
 rw [if_neg hc] at h
 have d1 : decide (20 < (n : Int)) = false := decide_eq_false hc
 have d2 : decide (20 < n) = false := decide_eq_false (by omega)
 clear hc
 obtain ⟨R, hR⟩ : ∃ R, quoteFrom a0 a0.size 0 = R := ⟨_, rfl⟩
 rw [hR] at h
 have HR := Aside0.mk hR
 have HH := Aside0.mk h
 clear hR h
 go_enter Tryd.func105, Tryd.ntmps105
 go_wp2_with (first | (go_at_call 118; refine (utf8_ValidString.calls a0 true _ AV.out HT0.out).mono ?_; rintro e w1 ⟨rfl, hb1⟩; have HB1 := Aside0.mk hb1; clear hb1) | (go_at_call 120; refine (utf8_RuneCountInString.calls a0 (n : Int) _ AC.out).mono ?_; rintro e w2 ⟨rfl, hb2⟩; have HB2 := Aside0.mk (below_step HB1.out hb2); clear hb2))
 go_loopg [] a0.size (fun gf wx => ∃ pos : Nat, Aside0 (wx.heap[w2.heap.size]? = some (.stringIter a0 pos)) ∧ Aside0 (Below w.heap.size w wx) ∧ Aside0 (quoteFrom a0 gf pos = R) ∧ Aside0 (a0.size ≤ pos + gf))
 case atStart => exact ⟨0, ⟨World.iter_heap w2 a0 0⟩, ⟨below_step HB2.out ((Below.refl _ w2).alloc (Nat.le_refl _) _)⟩, HR, ⟨by omega⟩⟩
 case round =>
  obtain ⟨pos, hit, hbw, hleft, hfu⟩ := hrel
  by_cases hps : pos < a0.size
  ·obtain ⟨g', rfl⟩ : ∃ g', gk = g' + 1 := ⟨gk - 1, by have := hfu.out; omega⟩
   have hnx : ∀ ty, (Instr.next (.pointer (some ⟨w2.heap.size, 0, none⟩)) true ty).run Tryd.prog wr = _ := fun ty => Lib.run_next_any_at wr w2.heap.size a0 pos ty hit.out hps
   have hwd := Lib.width_pos a0 pos
   obtain ⟨Q, hQ⟩ : ∃ Q, (Utf8.decode a0 pos).1 = Q := ⟨_, rfl⟩
   obtain ⟨K, hK⟩ : ∃ K, (Utf8.decode a0 pos).2 = K := ⟨_, rfl⟩
   have hl := hleft.out
   simp only [quoteFrom, hps, if_true, hQ, hK] at hl
   rw [hQ, hK] at hnx
   rw [hK] at hwd
   have hit2 := Aside0.mk (Lib.iterAt_heap wr w2.heap.size a0 pos (pos + K) hit.out)
   have hbw2 := Aside0.mk (Lib.below_iterAt hbw.out (k := w2.heap.size) HB2.out.size a0 (pos + K))
   have hfu2 : Aside0 (a0.size ≤ pos + K + g') := ⟨by have := hfu.out; omega⟩
   obtain ⟨W, hWd⟩ : ∃ W, wr.iterAt w2.heap.size a0 (pos + K) = W := ⟨_, rfl⟩
   rw [hWd] at hnx hit2 hbw2
   clear hit hbw hleft hfu hwd hWd hps hQ hK
   by_cases h2 : (Q : Int) < 32
   ·have HL : R = false := by rw [if_pos (.inl h2)] at hl; exact hl.symm
    subst HL
    obtain ⟨rfl, rfl⟩ := Prod.mk.inj (Option.some.inj ((if_neg (show ¬ (false = true) by decide)).symm.trans HH.out))
    have e1 : decide ((Q : Int) < 32) = true := decide_eq_true h2
    have e2 : decide (Q < 32) = true := decide_eq_true (by omega)
    clear hl h2
    go_wp2
    go_ret2
    exact ⟨rfl, hbw2.out⟩
   have e1 : decide ((Q : Int) < 32) = false := decide_eq_false h2
   have e2 : decide (Q < 32) = false := decide_eq_false (by omega)
   by_cases h3 : (Q : Int) = 34
   ·have HL : R = false := by rw [if_pos (.inr h3)] at hl; exact hl.symm
    subst HL
    obtain ⟨rfl, rfl⟩ := Prod.mk.inj (Option.some.inj ((if_neg (show ¬ (false = true) by decide)).symm.trans HH.out))
    have e3 : ((Q : Int) == 34) = true := beq_iff_eq.mpr h3
    clear hl h2 h3
    go_wp2
    go_ret2
    exact ⟨rfl, hbw2.out⟩
   have HL : Aside0 (quoteFrom a0 g' (pos + K) = R) := ⟨by rw [if_neg (fun h => h.elim h2 h3)] at hl; exact hl⟩
   have e3 : ((Q : Int) == 34) = false := beq_eq_false_iff_ne.mpr h3
   clear hl h2 h3
   go_wp2
   go_roundg g'
   case measure => omega
   case rel => exact ⟨pos + K, hit2, hbw2, HL, hfu2⟩
  have hnx : ∀ ty, (Instr.next (.pointer (some ⟨w2.heap.size, 0, none⟩)) true ty).run Tryd.prog wr = _ := fun ty => Lib.run_next_end_at wr w2.heap.size a0 pos ty hit.out hps
  have HL : R = true := by rw [← hleft.out]; exact quoteFrom_end a0 gk pos hps
  subst HL
  obtain ⟨rfl, rfl⟩ := Prod.mk.inj (Option.some.inj ((if_pos (show true = true from rfl)).symm.trans HH.out))
  have s1 : 1 + a0.size ≤ 9223372036854775807 := by have := HS.out; omega
  have s2 : ((⟨#[34]⟩ : ByteArray) ++ a0).size + 1 ≤ 9223372036854775807 := by have := HS.out; rw [ByteArray.size_append]; show 1 + a0.size + 1 ≤ _; omega
  have t6 : (9223372036854775807 < 1 + a0.size + 1) = False := eq_false (by have := HS.out; omega)
  have t0 := eq_true s1
  have t5 := eq_true s2
  have t1 : decide (1 + a0.size ≤ 9223372036854775807) = true := decide_eq_true s1
  have t2 : (9223372036854775807 < 1 + a0.size) = False := eq_false (Nat.not_lt.2 s1)
  have t3 : decide (((⟨#[34]⟩ : ByteArray) ++ a0).size + 1 ≤ 9223372036854775807) = true := decide_eq_true s2
  have t4 : (9223372036854775807 < ((⟨#[34]⟩ : ByteArray) ++ a0).size + 1) = False := eq_false (Nat.not_lt.2 s2)
  clear hleft hfu hps
  go_wp2
  go_ret2
  exact ⟨by first | rfl | (simp; done), hbw.out⟩
def prog_blank.f (a0_0 : Int) (a0_1 : Int) (a0_2 : ByteArray) (l0_3 : List (S34)) : Option (Bool) := if a0_0 = 0 then (if a0_1 = 0 then (if a0_2.toList = ([] : List UInt8) then (some ((l0_3.length : Int) == 0)) else (some false)) else (some false)) else (some false)
set_option maxHeartbeats 8000000 in
set_option maxRecDepth 100000 in
theorem prog_blank.calls (a0_0 : Int) (a0_1 : Int) (a0_2 : ByteArray) (A0_3 : Option Addr) (c0_3 : Nat) (l0_3 : List (S34)) (r : Bool) (w : World) (hr0_3 : Kd.C k34 w A0_3 l0_3.length l0_3) (hc0_3 : l0_3.length ≤ c0_3) (h : prog_blank.f a0_0 a0_1 a0_2 l0_3 = some r) :
  Calls Tryd.prog 104 #[.agg #[.int .i64 a0_0, .int .i64 a0_1, .string a0_2, .slice A0_3 l0_3.length c0_3]] w fun e w' => e = .returned (.bool r) ∧ Below w.heap.size w w' := by
 have hu34 := Tryd.underlying34
 have HR0_3 := Aside0.mk hr0_3
 have HC0_3 := Aside0.mk hc0_3
 clear hr0_3 hc0_3
 have HB := Aside0.mk (Below.refl w.heap.size w)
 have H : (if a0_0 = 0 then (if a0_1 = 0 then (if a0_2.toList = ([] : List UInt8) then (some ((l0_3.length : Int) == 0)) else (some false)) else (some false)) else (some false)) = some r := h
 clear h
 by_cases c2 : a0_0 = 0
 ·rw [if_pos c2] at H
  obtain ⟨c2b0, c2b1⟩ := qe c2
  clear c2
  by_cases c3 : a0_1 = 0
  ·rw [if_pos c3] at H
   obtain ⟨c3b0, c3b1⟩ := qe c3
   clear c3
   by_cases c4 : a0_2.toList = ([] : List UInt8)
   ·rw [if_pos c4] at H
    obtain ⟨c4b0, c4b1⟩ := qe c4
    clear c4
    obtain rfl := Option.some.inj H
    go_enter Tryd.func104, Tryd.ntmps104
    go_wp2_with (first | ((with_reducible refine gate_dst (N := 1) rfl ?_); (try (refine gate_guard (by rfl) ?_; dsimp only)); refine box_event ?hg (N := 1) ?hd (cs := #[.int .i64 a0_0, .int .i64 a0_1, .string a0_2, .slice A0_3 l0_3.length c0_3]) (t := 34) ?hr ?_; (case hd => rfl); (case hg => rfl); (case hr => first | (go_simp; done) | (go_simp; rfl)); intro gb101 hg w5 hbox hb; have n0_ := qs hb; have n1_ := Aside0.mk (hbox); have n2_ := Aside0.mk ((by rw [hg]; exact (below_size qb) : w.heap.size ≤ gb101)); have n3_ := Aside0.mk ((by rw [hg]; exact (below_size qb) : w.heap.size ≤ gb101)); clear HB; have HB := n0_; have BK101 := n1_; have GW101 := n2_; have GE101 := n3_; clear n0_ n1_ n2_ n3_; clear hb hbox hg; obtain ⟨_, _, _, _, _, _, _, _⟩ := q4 BK101.out))
    go_ret
    exact qr
   rw [if_neg c4] at H
   obtain ⟨c4b0, c4b1⟩ := qd c4
   obtain rfl := Option.some.inj H
   go_enter Tryd.func104, Tryd.ntmps104
   go_wp2_with (first | ((with_reducible refine gate_dst (N := 1) rfl ?_); (try (refine gate_guard (by rfl) ?_; dsimp only)); refine box_event ?hg (N := 1) ?hd (cs := #[.int .i64 a0_0, .int .i64 a0_1, .string a0_2, .slice A0_3 l0_3.length c0_3]) (t := 34) ?hr ?_; (case hd => rfl); (case hg => rfl); (case hr => first | (go_simp; done) | (go_simp; rfl)); intro gb101 hg w7 hbox hb; have n0_ := qs hb; have n1_ := Aside0.mk (hbox); have n2_ := Aside0.mk ((by rw [hg]; exact (below_size qb) : w.heap.size ≤ gb101)); have n3_ := Aside0.mk ((by rw [hg]; exact (below_size qb) : w.heap.size ≤ gb101)); clear HB; have HB := n0_; have BK101 := n1_; have GW101 := n2_; have GE101 := n3_; clear n0_ n1_ n2_ n3_; clear hb hbox hg; obtain ⟨_, _, _, _, _, _, _, _⟩ := q4 BK101.out))
   go_ret
   exact qr
  rw [if_neg c3] at H
  obtain ⟨c3b0, c3b1⟩ := qd c3
  obtain rfl := Option.some.inj H
  go_enter Tryd.func104, Tryd.ntmps104
  go_wp2_with (first | ((with_reducible refine gate_dst (N := 1) rfl ?_); (try (refine gate_guard (by rfl) ?_; dsimp only)); refine box_event ?hg (N := 1) ?hd (cs := #[.int .i64 a0_0, .int .i64 a0_1, .string a0_2, .slice A0_3 l0_3.length c0_3]) (t := 34) ?hr ?_; (case hd => rfl); (case hg => rfl); (case hr => first | (go_simp; done) | (go_simp; rfl)); intro gb101 hg w9 hbox hb; have n0_ := qs hb; have n1_ := Aside0.mk (hbox); have n2_ := Aside0.mk ((by rw [hg]; exact (below_size qb) : w.heap.size ≤ gb101)); have n3_ := Aside0.mk ((by rw [hg]; exact (below_size qb) : w.heap.size ≤ gb101)); clear HB; have HB := n0_; have BK101 := n1_; have GW101 := n2_; have GE101 := n3_; clear n0_ n1_ n2_ n3_; clear hb hbox hg; obtain ⟨_, _, _, _, _, _, _, _⟩ := q4 BK101.out))
  go_ret
  exact qr
 rw [if_neg c2] at H
 obtain ⟨c2b0, c2b1⟩ := qd c2
 obtain rfl := Option.some.inj H
 go_enter Tryd.func104, Tryd.ntmps104
 go_wp2_with (first | ((with_reducible refine gate_dst (N := 1) rfl ?_); (try (refine gate_guard (by rfl) ?_; dsimp only)); refine box_event ?hg (N := 1) ?hd (cs := #[.int .i64 a0_0, .int .i64 a0_1, .string a0_2, .slice A0_3 l0_3.length c0_3]) (t := 34) ?hr ?_; (case hd => rfl); (case hg => rfl); (case hr => first | (go_simp; done) | (go_simp; rfl)); intro gb101 hg w11 hbox hb; have n0_ := qs hb; have n1_ := Aside0.mk (hbox); have n2_ := Aside0.mk ((by rw [hg]; exact (below_size qb) : w.heap.size ≤ gb101)); have n3_ := Aside0.mk ((by rw [hg]; exact (below_size qb) : w.heap.size ≤ gb101)); clear HB; have HB := n0_; have BK101 := n1_; have GW101 := n2_; have GE101 := n3_; clear n0_ n1_ n2_ n3_; clear hb hbox hg; obtain ⟨_, _, _, _, _, _, _, _⟩ := q4 BK101.out))
 go_ret
 exact qr
end Go.Proofs.YtiaccdaeomaogaaDoor.F
