/- The document's Reader: its Bool. -/
import Derived.Test.YtnlbmhojjjjpdaaPackY
namespace Go.Proofs.Ytnlbmhojjjjpdaa.Pk
open Go.RowKit Go.Proofs.YtnlbmhojjjjpdaaW.PrintWords Go.Proofs.YtnlbmhojjjjpdaaW.PrintLast Go.Proofs.YtnlbmhojjjjpdaaW.PrintMore
set_option linter.unusedVariables false
set_option linter.unusedSimpArgs false
set_option maxHeartbeats 4000000 in
set_option maxRecDepth 100000 in
theorem RefR_Bool (g : Nat) (A : Option Addr) (c : Nat) (w : World) (bs : List Int) (bad : Bool) (hb : w.heap[g]? = some (.cells #[.slice A bs.length c, .bool bad] 51 (0, 0))) (hc : bs.length ≤ c) (hrd : ReadsInt w .u8 A bs.length bs) (n : Bool) (bs' : List Int) (bad' : Bool) (hr : rBool bs bad = (n, bs', bad')) :
    Calls Try.prog 59 #[.pointer (some ⟨g, 0, none⟩)] w fun e w' => e = .returned (.bool n) ∧ RdPost 51 g A bs w w' bs' bad' := by
  have hf1 : w.frozen? ⟨g, 1, none⟩ = false := blk_frozen hb 1
  have hf0 : w.frozen? ⟨g, 0, none⟩ = false := blk_frozen hb 0
  have hc1 : w.cell? ⟨g, 1, none⟩ = some (.bool bad) := (blk_cell hb 1).trans rfl
  have hc0 : w.cell? ⟨g, 0, none⟩ = some (.slice A bs.length c) := (blk_cell hb 0).trans rfl
  have HP := Aside0.mk (fun nd => RdPost.bad_ hb hc nd)
  unfold rBool at hr
  by_cases hz : bad = true ∨ bs.length = 0 ∨ 1 < rd bs 0
  · rw [if_pos hz] at hr
    simp only [Prod.mk.injEq] at hr
    obtain ⟨rfl, rfl, rfl⟩ := hr
    cases bad with
    | true =>
      clear hz hb hrd hc
      go_enter Try.func59, Try.ntmps59
      go_wp2
      go_ret
      exact ⟨rfl, HP.out 0⟩
    | false =>
      by_cases h0 : bs.length = 0
      · have d1 : ((bs.length : Int) == 0) = true := beq_iff_eq.mpr (by omega)
        clear hz hb hrd hc h0
        go_enter Try.func59, Try.ntmps59
        go_wp2
        go_ret
        exact ⟨rfl, HP.out 0⟩
      · have d1 : ((bs.length : Int) == 0) = false := beq_eq_false_iff_ne.mpr (by omega)
        have h1 : 1 < rd bs 0 := by rcases hz with h | h | h; exact absurd h (by decide); exact absurd h h0; exact h
        have d2 : decide (1 < rd bs 0) = true := decide_eq_true h1
        have hpos : 0 < bs.length := by omega
        obtain ⟨ad, e0, hx⟩ := hrd.at_ 0 (by omega) (by omega)
        subst e0
        have hx0 : w.cell? (ad.add 0) = some (.int .u8 (rd bs 0)) := hx
        have had : ad.add 0 = ad := by unfold Addr.add; cases ad; split <;> simp_all
        have hxa : w.cell? ad = some (.int .u8 (rd bs 0)) := by rw [had] at hx0; exact hx0
        clear hz hb hrd hc h0 h1 hx had
        go_enter Try.func59, Try.ntmps59
        go_wp2
        go_ret
        exact ⟨rfl, HP.out 0⟩
  · rw [if_neg hz] at hr
    simp only [Prod.mk.injEq] at hr
    obtain ⟨rfl, rfl, rfl⟩ := hr
    have hz2 : bad = false ∧ bs.length ≠ 0 ∧ ¬ 1 < rd bs 0 := ⟨by cases bad; rfl; exact absurd (Or.inl rfl) hz, fun h => hz (.inr (.inl h)), fun h => hz (.inr (.inr h))⟩
    obtain ⟨rfl, h0, h1⟩ := hz2
    have d1 : ((bs.length : Int) == 0) = false := beq_eq_false_iff_ne.mpr (by omega)
    have d2 : decide (1 < rd bs 0) = false := decide_eq_false h1
    have hpos : 0 < bs.length := by omega
    obtain ⟨ad, e0, hx⟩ := hrd.at_ 0 (by omega) (by omega)
    subst e0
    have hx0 : w.cell? (ad.add 0) = some (.int .u8 (rd bs 0)) := hx
    have had : ad.add 0 = ad := by unfold Addr.add; cases ad; split <;> simp_all
    have hxa : w.cell? ad = some (.int .u8 (rd bs 0)) := by rw [had] at hx0; exact hx0
    obtain ⟨A', hD, hR, hcD, hF⟩ := cut8 (some ad) bs c 1 (by omega) (by omega) hc
    have e1 : (1 : Int).toNat = 1 := rfl
    rw [e1] at hD hR hcD
    have HR := Aside0.mk hR
    have HF := Aside0.mk hF
    have HcD := Aside0.mk hcD
    have Hb := Aside0.mk (blk_set (w := w) (g := g) hb 0 (.slice A' (bs.drop 1).length (c - 1)))
    obtain ⟨ld, hld⟩ : ∃ ld, ld = bs.drop 1 := ⟨_, rfl⟩
    rw [← hld] at hD HR HcD Hb ⊢
    clear hz h0 h1 hb hrd hc hx had hR hF hcD hld
    go_enter Try.func59, Try.ntmps59
    go_wp2
    go_ret
    exact ⟨by first | rfl | (simp; done), A', c - 1, Hb.out, HcD.out, HR.out, HF.out, (KB.refl _ _).set_ 0 _⟩
end Go.Proofs.Ytnlbmhojjjjpdaa.Pk
