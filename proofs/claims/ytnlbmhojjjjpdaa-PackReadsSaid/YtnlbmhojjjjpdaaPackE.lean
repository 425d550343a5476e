/- The contracts of pack's Reader, the rest. -/
import Derived.Test.YtnlbmhojjjjpdaaPackD
import Derived.Outline
namespace Go.Proofs.Ytnlbmhojjjjpdaa.Pk
open Go.RowKit Go.Proofs.YtnlbmhojjjjpdaaW.PrintWords Go.Proofs.YtnlbmhojjjjpdaaW.PrintLast Go.Proofs.YtnlbmhojjjjpdaaW.PrintMore
set_option linter.unusedVariables false
set_option linter.unusedSimpArgs false

theorem ret_int {k : IntKind} {a b : Int} (h : a = b) : Ending.returned (.int k a) = .returned (.int k b) := by rw [h]
theorem ret_bool {a b : Bool} (h : a = b) : Ending.returned (.bool a) = .returned (.bool b) := by rw [h]
set_option maxHeartbeats 4000000 in
set_option maxRecDepth 100000 in
theorem Reader_Left (g : Nat) (A : Option Addr) (c : Nat) (w : World) (bs : List Int) (bad : Bool) (hb : w.heap[g]? = some (.cells #[.slice A bs.length c, .bool bad] 70 (0, 0))) :
    Calls Try.prog 31 #[.pointer (some ⟨g, 0, none⟩)] w fun e w' => e = .returned (.int .i64 bs.length) ∧ Drawn0 w w' := by
  have hc0 : w.cell? ⟨g, 0, none⟩ = some (.slice A bs.length c) := (blk_cell hb 0).trans rfl
  clear hb
  go_enter Try.func31, Try.ntmps31
  go_wp2
  go_ret
  exact ⟨rfl, by repeat (first | exact Drawn0.refl _ | apply Drawn0.step)⟩
set_option maxHeartbeats 4000000 in
set_option maxRecDepth 100000 in
theorem Reader_Err (g : Nat) (A : Option Addr) (c : Nat) (w : World) (bs : List Int) (bad : Bool) (hb : w.heap[g]? = some (.cells #[.slice A bs.length c, .bool bad] 70 (0, 0))) :
    Calls Try.prog 30 #[.pointer (some ⟨g, 0, none⟩)] w fun e w' => e = .returned (.int .i64 (if bad = true then 30 else 0)) ∧ Drawn0 w w' := by
  have hc0 : w.cell? ⟨g, 1, none⟩ = some (.bool bad) := (blk_cell hb 1).trans rfl
  clear hb
  cases bad with
  | true =>
    go_enter Try.func30, Try.ntmps30
    go_wp2
    go_ret
    exact ⟨rfl, by repeat (first | exact Drawn0.refl _ | apply Drawn0.step)⟩
  | false =>
    go_enter Try.func30, Try.ntmps30
    go_wp2
    go_ret
    exact ⟨rfl, by repeat (first | exact Drawn0.refl _ | apply Drawn0.step)⟩
set_option maxHeartbeats 8000000 in
set_option maxRecDepth 100000 in
theorem Reader_Count (g : Nat) (A : Option Addr) (c : Nat) (w : World) (bs : List Int) (bad : Bool) (hb : w.heap[g]? = some (.cells #[.slice A bs.length c, .bool bad] 70 (0, 0))) (hc : bs.length ≤ c) (hrd : ReadsInt w .u8 A bs.length bs) (hfar : ∀ ad, A = some ad → ad.block ≠ g) (h8 : Bytes8 bs) (hl : bs.length < 1000000000) (most n : Int) (bs' : List Int) (bad' : Bool) (hr : rCount most bs bad = (n, bs', bad')) :
    Calls Try.prog 33 #[.pointer (some ⟨g, 0, none⟩), .int .i64 most] w fun e w' => e = .returned (.int .i64 n) ∧ RdPost 70 g A bs w w' bs' bad' := by
  have HN := Aside0.mk (Reader_next g w bs bad ⟨A, c, hb, hc, hrd, hfar⟩ h8 hl (rNext bs bad) rfl)
  have hsz := rNext_size bs bad
  unfold rCount at hr
  have hf1 : w.frozen? ⟨g, 1, none⟩ = false := blk_frozen hb 1
  have hc1 : w.cell? ⟨g, 1, none⟩ = some (.bool bad) := (blk_cell hb 1).trans rfl
  generalize rNext bs bad = r at *
  obtain ⟨v, z⟩ := r
  simp only at *
  by_cases hz : z = 0 ∨ v < 0 ∨ most < v
  · rw [if_pos hz] at hr
    simp only [Prod.mk.injEq] at hr
    obtain ⟨rfl, rfl, rfl⟩ := hr
    have Hb := Aside0.mk (blk_set hb 1 (.bool true))
    have HC := Aside0.mk hc
    rcases (show z = 0 ∨ (z ≠ 0 ∧ v < 0) ∨ (z ≠ 0 ∧ ¬ v < 0 ∧ most < v) by omega) with h | ⟨h, h2⟩ | ⟨h, h2, h3⟩
    · have d1 : (z == 0) = true := beq_iff_eq.mpr h
      clear h hz hsz hb hrd hfar h8 hc hl
      go_enter Try.func33, Try.ntmps33
      go_wp2_with (first | (go_at_call 56; refine HN.out.mono ?_; rintro e w' ⟨rfl, ⟨nd, rfl⟩⟩))
      go_ret
      exact ⟨rfl, RdPost.same (by first | exact Hb.out | simpa using Hb.out) HC.out ((KB.drawn (by repeat (first | exact Drawn0.refl _ | apply Drawn0.step))).set_ 1 _)⟩
    · have d1 : (z == 0) = false := beq_eq_false_iff_ne.mpr h
      have d2 : decide (v < 0) = true := decide_eq_true h2
      clear h h2 hz hsz hb hrd hfar h8 hc hl
      go_enter Try.func33, Try.ntmps33
      go_wp2_with (first | (go_at_call 56; refine HN.out.mono ?_; rintro e w' ⟨rfl, ⟨nd, rfl⟩⟩))
      go_ret
      exact ⟨rfl, RdPost.same (by first | exact Hb.out | simpa using Hb.out) HC.out ((KB.drawn (by repeat (first | exact Drawn0.refl _ | apply Drawn0.step))).set_ 1 _)⟩
    · have d1 : (z == 0) = false := beq_eq_false_iff_ne.mpr h
      have d2 : decide (v < 0) = false := decide_eq_false h2
      have d3 : decide (most < v) = true := decide_eq_true h3
      clear h h2 h3 hz hsz hb hrd hfar h8 hc hl
      go_enter Try.func33, Try.ntmps33
      go_wp2_with (first | (go_at_call 56; refine HN.out.mono ?_; rintro e w' ⟨rfl, ⟨nd, rfl⟩⟩))
      go_ret
      exact ⟨rfl, RdPost.same (by first | exact Hb.out | simpa using Hb.out) HC.out ((KB.drawn (by repeat (first | exact Drawn0.refl _ | apply Drawn0.step))).set_ 1 _)⟩
  · rw [if_neg hz] at hr
    simp only [Prod.mk.injEq] at hr
    obtain ⟨rfl, rfl, rfl⟩ := hr
    have d1 : (z == 0) = false := beq_eq_false_iff_ne.mpr (by omega)
    have d2 : decide (v < 0) = false := decide_eq_false (by omega)
    have d3 : decide (most < v) = false := decide_eq_false (by omega)
    have HT := Aside0.mk (fun nd => Reader_take g A c (w.drewN nd) bs bad z hb hc (by omega) (by omega) hl)
    clear hz hsz hb hrd hfar h8 hc hl
    go_enter Try.func33, Try.ntmps33
    go_wp2_with (first | (go_at_call 56; refine HN.out.mono ?_; rintro e w' ⟨rfl, ⟨nd, rfl⟩⟩) | (go_at_call 57; refine (HT.out _).mono ?_; rintro e w2 ⟨rfl, hq⟩; have HQ := Aside0.mk hq; clear hq))
    go_ret
    obtain ⟨A2, c2, q1, q2, q3, q4, q5⟩ := HQ.out
    exact ⟨rfl, A2, c2, q1, q2, q3, q4, q5.undrew⟩
set_option maxHeartbeats 8000000 in
set_option maxRecDepth 100000 in
theorem Reader_Bool (g : Nat) (A : Option Addr) (c : Nat) (w : World) (bs : List Int) (bad : Bool) (hb : w.heap[g]? = some (.cells #[.slice A bs.length c, .bool bad] 70 (0, 0))) (hc : bs.length ≤ c) (hrd : ReadsInt w .u8 A bs.length bs) (hfar : ∀ ad, A = some ad → ad.block ≠ g) (h8 : Bytes8 bs) (hl : bs.length < 1000000000) (r : Bool) (bs' : List Int) (bad' : Bool) (hr : rBool bs bad = (r, bs', bad')) :
    Calls Try.prog 27 #[.pointer (some ⟨g, 0, none⟩)] w fun e w' => e = .returned (.bool r) ∧ RdPost 70 g A bs w w' bs' bad' := by
  unfold rBool at hr
  have hf1 : w.frozen? ⟨g, 1, none⟩ = false := blk_frozen hb 1
  have hc1 : w.cell? ⟨g, 1, none⟩ = some (.bool bad) := (blk_cell hb 1).trans rfl
  have hc0 : w.cell? ⟨g, 0, none⟩ = some (.slice A bs.length c) := (blk_cell hb 0).trans rfl
  have Hb := Aside0.mk (blk_set hb 1 (.bool true))
  have HC := Aside0.mk hc
  cases bad with
  | true =>
    rw [if_pos (.inl rfl)] at hr
    simp only [Prod.mk.injEq] at hr
    obtain ⟨rfl, rfl, rfl⟩ := hr
    clear hb hrd hfar h8 hc hl
    go_enter Try.func27, Try.ntmps27
    go_wp2
    go_ret
    exact ⟨rfl, RdPost.same (by first | exact Hb.out | simpa using Hb.out) HC.out ((KB.drawn (by repeat (first | exact Drawn0.refl _ | apply Drawn0.step))).set_ 1 _)⟩
  | false =>
    by_cases h0 : bs.length = 0
    · rw [if_pos (.inr (.inl h0))] at hr
      simp only [Prod.mk.injEq] at hr
      obtain ⟨rfl, rfl, rfl⟩ := hr
      have d1 : ((bs.length : Int) == 0) = true := beq_iff_eq.mpr (by omega)
      clear h0 hb hrd hfar h8 hc hl
      go_enter Try.func27, Try.ntmps27
      go_wp2
      go_ret
      exact ⟨rfl, RdPost.same (by first | exact Hb.out | simpa using Hb.out) HC.out ((KB.drawn (by repeat (first | exact Drawn0.refl _ | apply Drawn0.step))).set_ 1 _)⟩
    · have d1 : ((bs.length : Int) == 0) = false := beq_eq_false_iff_ne.mpr (by omega)
      have hpos : 0 < bs.length := by omega
      obtain ⟨ad, e0, hx⟩ := hrd.at_ 0 (by omega) (by omega)
      subst e0
      have hx0 : w.cell? (ad.add 0) = some (.int .u8 (rd bs 0)) := hx
      have had : ad.add 0 = ad := by unfold Addr.add; cases ad; split <;> simp_all
      have hxa : w.cell? ad = some (.int .u8 (rd bs 0)) := by rw [had] at hx0; exact hx0
      have HAD := Aside0.mk had
      clear had
      by_cases h1 : 1 < rd bs 0
      · rw [if_pos (.inr (.inr h1))] at hr
        simp only [Prod.mk.injEq] at hr
        obtain ⟨rfl, rfl, rfl⟩ := hr
        have d2 : decide (1 < rd bs 0) = true := decide_eq_true h1
        clear h0 h1 hb hrd hfar h8 hc hl hx
        go_enter Try.func27, Try.ntmps27
        go_wp2
        go_ret
        exact ⟨rfl, RdPost.same (by first | exact Hb.out | simpa using Hb.out) HC.out ((KB.drawn (by repeat (first | exact Drawn0.refl _ | apply Drawn0.step))).set_ 1 _)⟩
      · rw [if_neg (fun h => by rcases h with h | h | h; cases h; exact h0 h; exact h1 h)] at hr
        simp only [Prod.mk.injEq] at hr
        obtain ⟨rfl, rfl, rfl⟩ := hr
        have d2 : decide (1 < rd bs 0) = false := decide_eq_false h1
        have HT := Aside0.mk (fun nd => Reader_take g (some ad) c (w.drewN nd) bs false 1 hb hc (by omega) (by omega) hl)
        have hlen : (bs.take (1 : Int).toNat).length = 1 := by rw [List.length_take]; simp; omega
        rw [hlen] at HT
        have HX := Aside0.mk hx0
        have hne : ad.block ≠ g := hfar ad rfl
        clear h0 h1 hb hrd hfar h8 hc hl hx hlen
        go_enter Try.func27, Try.ntmps27
        go_wp2_with (first | (go_at_call 57; refine (HT.out 0).mono ?_; rintro e w2 ⟨rfl, hq⟩; have HQ := Aside0.mk hq; have hx2 : w2.cell? ad = some (.int .u8 (rd bs 0)) := (by rw [← HAD.out]; exact cell_keepN hq.choose_spec.choose_spec.2.2.2.2.1 hne HX.out); clear hq))
        go_ret
        obtain ⟨A2, c2, q1, q2, q3, q4, q5⟩ := HQ.out
        exact ⟨rfl, A2, c2, q1, q2, q3, q4, q5.undrew⟩
end Go.Proofs.Ytnlbmhojjjjpdaa.Pk
