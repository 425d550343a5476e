/- The document's Reader: its Int. -/
import Derived.Test.YtnlbmhojjjjpdaaPackV
namespace Go.Proofs.Ytnlbmhojjjjpdaa.Pk
open Go.RowKit Go.Proofs.YtnlbmhojjjjpdaaW.PrintWords Go.Proofs.YtnlbmhojjjjpdaaW.PrintLast Go.Proofs.YtnlbmhojjjjpdaaW.PrintMore
set_option linter.unusedVariables false
set_option linter.unusedSimpArgs false
theorem RdPost.bad_ {t g : Nat} {A : Option Addr} {c : Nat} {bs : List Int} {w : World} {bad : Bool} (hb : w.heap[g]? = some (.cells #[.slice A bs.length c, .bool bad] t (0, 0))) (hc : bs.length ≤ c) (nd : Nat) : RdPost t g A bs w ((w.drewN nd).setCell ⟨g, 1, none⟩ (.bool true)) bs true := by
  refine RdPost.same (c := c) ?_ hc ((KB.drawn ⟨⟨nd, rfl⟩⟩).set_ 1 _)
  have := blk_set (w := w.drewN nd) (g := g) hb 1 (.bool true)
  first | exact this | simpa using this
set_option maxHeartbeats 4000000 in
set_option maxRecDepth 100000 in
theorem RefR_Int (g : Nat) (A : Option Addr) (c : Nat) (w : World) (bs : List Int) (bad : Bool) (hb : w.heap[g]? = some (.cells #[.slice A bs.length c, .bool bad] 51 (0, 0))) (hc : bs.length ≤ c) (hrd : ReadsInt w .u8 A bs.length bs) (h8 : Bytes8 bs) (n : Int) (bs' : List Int) (bad' : Bool) (hr : rInt bs bad = (n, bs', bad')) :
    Calls Try.prog 58 #[.pointer (some ⟨g, 0, none⟩)] w fun e w' => e = .returned (.int .i64 n) ∧ RdPost 51 g A bs w w' bs' bad' := by
  have HN := Aside0.mk (number_calls A c bs w hrd hc h8)
  have hsz := nxt_size bs 0 0
  have hf1 : w.frozen? ⟨g, 1, none⟩ = false := blk_frozen hb 1
  have hf0 : w.frozen? ⟨g, 0, none⟩ = false := blk_frozen hb 0
  have hc1 : w.cell? ⟨g, 1, none⟩ = some (.bool bad) := (blk_cell hb 1).trans rfl
  have hc0 : w.cell? ⟨g, 0, none⟩ = some (.slice A bs.length c) := (blk_cell hb 0).trans rfl
  have HP := Aside0.mk (fun nd => RdPost.bad_ hb hc nd)
  unfold rInt rNext at hr
  cases bad with
  | true =>
    simp at hr
    obtain ⟨rfl, rfl, rfl⟩ := hr
    clear hsz hb hrd h8 hc
    go_enter Try.func58, Try.ntmps58
    go_wp2_with (first | (go_at_call 67; refine HN.out.mono ?_; rintro e w' ⟨rfl, ⟨nd, rfl⟩⟩))
    go_ret
    exact ⟨rfl, HP.out _⟩
  | false =>
    simp only [if_neg (show ¬ (false = true) from by decide)] at hr
    generalize nxt 0 0 bs = r at *
    obtain ⟨v, z⟩ := r
    simp only at *
    by_cases hz : z = 0
    · rw [if_pos hz] at hr
      simp only [Prod.mk.injEq] at hr
      obtain ⟨rfl, rfl, rfl⟩ := hr
      have d1 : (z == 0) = true := beq_iff_eq.mpr hz
      clear hz hsz hb hrd h8 hc
      go_enter Try.func58, Try.ntmps58
      go_wp2_with (first | (go_at_call 67; refine HN.out.mono ?_; rintro e w' ⟨rfl, ⟨nd, rfl⟩⟩))
      go_ret
      exact ⟨rfl, HP.out _⟩
    · rw [if_neg hz] at hr
      simp only [Prod.mk.injEq] at hr
      obtain ⟨rfl, rfl, rfl⟩ := hr
      have d1 : (z == 0) = false := beq_eq_false_iff_ne.mpr hz
      obtain ⟨A', hD, hR, hcD, hF⟩ := cut8 A bs c z (by omega) (by omega) hc
      have HR := Aside0.mk hR
      have HF := Aside0.mk hF
      have HcD := Aside0.mk hcD
      have Hb := Aside0.mk (fun nd => blk_set (w := w.drewN nd) (g := g) hb 0 (.slice A' (bs.drop z.toNat).length (c - z.toNat)))
      obtain ⟨ld, hld⟩ : ∃ ld, ld = bs.drop z.toNat := ⟨_, rfl⟩
      rw [← hld] at hD HR HcD Hb ⊢
      clear hz hsz hb hrd h8 hc hR hF hcD hld
      go_enter Try.func58, Try.ntmps58
      go_wp2_with (first | (go_at_call 67; refine HN.out.mono ?_; rintro e w' ⟨rfl, ⟨nd, rfl⟩⟩))
      go_ret
      exact ⟨rfl, A', c - z.toNat, Hb.out _, HcD.out, HR.out, HF.out, (KB.drawn ⟨⟨_, rfl⟩⟩).set_ 0 _⟩
end Go.Proofs.Ytnlbmhojjjjpdaa.Pk
