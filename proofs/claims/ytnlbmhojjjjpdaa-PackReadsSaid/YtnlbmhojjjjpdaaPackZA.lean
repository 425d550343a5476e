/- The document's Reader: its Text. -/
import Derived.Test.YtnlbmhojjjjpdaaPackZ
namespace Go.Proofs.Ytnlbmhojjjjpdaa.Pk
open Go.RowKit Go.Proofs.YtnlbmhojjjjpdaaW.PrintWords Go.Proofs.YtnlbmhojjjjpdaaW.PrintLast Go.Proofs.YtnlbmhojjjjpdaaW.PrintMore
set_option linter.unusedVariables false
set_option linter.unusedSimpArgs false
theorem str_nil2 : strOfNums [] = (⟨#[]⟩ : ByteArray) := by decide +kernel
set_option maxHeartbeats 4000000 in
set_option maxRecDepth 100000 in
theorem RefR_Text (g : Nat) (A : Option Addr) (c : Nat) (w : World) (bs : List Int) (bad : Bool) (hb : w.heap[g]? = some (.cells #[.slice A bs.length c, .bool bad] 51 (0, 0))) (hc : bs.length ≤ c) (hrd : ReadsInt w .u8 A bs.length bs) (h8 : Bytes8 bs) (hl : bs.length < 1000000000) (most : Int) (n : List Int) (bs' : List Int) (bad' : Bool) (hr : rText most bs bad = (n, bs', bad')) :
    Calls Try.prog 60 #[.pointer (some ⟨g, 0, none⟩), .int .i64 most] w fun e w' => e = .returned (.string (strOfNums n)) ∧ RdPost 51 g A bs w w' bs' bad' := by
  have HN := Aside0.mk (number_calls A c bs w hrd hc h8)
  have hsz := nxt_size bs 0 0
  have hf1 : w.frozen? ⟨g, 1, none⟩ = false := blk_frozen hb 1
  have hf0 : w.frozen? ⟨g, 0, none⟩ = false := blk_frozen hb 0
  have hc1 : w.cell? ⟨g, 1, none⟩ = some (.bool bad) := (blk_cell hb 1).trans rfl
  have hc0 : w.cell? ⟨g, 0, none⟩ = some (.slice A bs.length c) := (blk_cell hb 0).trans rfl
  have HP := Aside0.mk (fun nd => RdPost.bad_ hb hc nd)
  unfold rText rNext at hr
  cases bad with
  | true =>
    simp at hr
    obtain ⟨rfl, rfl, rfl⟩ := hr
    clear hsz hb hrd h8 hc
    go_enter Try.func60, Try.ntmps60
    go_wp2_with (first | (go_at_call 67; refine HN.out.mono ?_; rintro e w' ⟨rfl, ⟨nd, rfl⟩⟩))
    go_ret
    exact ⟨rfl, HP.out _⟩
  | false =>
    simp only [if_neg (show ¬ (false = true) from by decide)] at hr
    generalize nxt 0 0 bs = r at *
    obtain ⟨v, z⟩ := r
    simp only at *
    have hwz : z = 0 ∨ wrap64 ((bs.length : Int) - z) = (bs.length : Int) - z := by right; unfold wrap64; omega
    have hwz := hwz.resolve_left
    have hw : wrap64 ((bs.length : Int) - z) = (bs.length : Int) - z := by unfold wrap64; omega
    clear hwz
    by_cases hz : z = 0 ∨ v < 0 ∨ most < v ∨ (bs.length : Int) - z < v
    · rw [if_pos hz] at hr
      simp only [Prod.mk.injEq] at hr
      obtain ⟨rfl, rfl, rfl⟩ := hr
      have hd : (z == 0) = true ∨ ((z == 0) = false ∧ decide (v < 0) = true) ∨ ((z == 0) = false ∧ decide (v < 0) = false ∧ decide (most < v) = true) ∨ ((z == 0) = false ∧ decide (v < 0) = false ∧ decide (most < v) = false ∧ decide ((bs.length : Int) - z < v) = true) := by
        by_cases h1 : z = 0
        · exact .inl (beq_iff_eq.mpr h1)
        · by_cases h2 : v < 0
          · exact .inr (.inl ⟨beq_eq_false_iff_ne.mpr h1, decide_eq_true h2⟩)
          · by_cases h3 : most < v
            · exact .inr (.inr (.inl ⟨beq_eq_false_iff_ne.mpr h1, decide_eq_false h2, decide_eq_true h3⟩))
            · exact .inr (.inr (.inr ⟨beq_eq_false_iff_ne.mpr h1, decide_eq_false h2, decide_eq_false h3, decide_eq_true (by omega)⟩))
      have sn := str_nil2
      clear hz hsz hb hrd h8 hc hl
      rcases hd with d1 | ⟨d1, d2⟩ | ⟨d1, d2, d3⟩ | ⟨d1, d2, d3, d4⟩
      all_goals
        go_enter Try.func60, Try.ntmps60
        go_wp2_with (first | (go_at_call 67; refine HN.out.mono ?_; rintro e w' ⟨rfl, ⟨nd, rfl⟩⟩))
        go_ret
        exact ⟨by rw [sn]; rfl, HP.out _⟩
    · rw [if_neg hz] at hr
      simp only [Prod.mk.injEq] at hr
      obtain ⟨rfl, rfl, rfl⟩ := hr
      have d1 : (z == 0) = false := beq_eq_false_iff_ne.mpr (by omega)
      have d2 : decide (v < 0) = false := decide_eq_false (by omega)
      have d3 : decide (most < v) = false := decide_eq_false (by omega)
      have d4 : decide ((bs.length : Int) - z < v) = false := decide_eq_false (by omega)
      have hza : wrap64 (z + v) = z + v := by unfold wrap64; omega
      obtain ⟨i, hi, hz0, hz1, hz2⟩ := info_parts info5
      obtain ⟨AM, hM, hMR, _⟩ := print_mid_int (k := .u8) 25 5 Try.underlying25 hi hz1 A c bs z (z + v) (by omega) (by omega) (by omega) hc
      obtain ⟨A', hD, hR, hcD, hF⟩ := cut8 A bs c (z + v) (by omega) (by omega) hc
      have em : (bs.take (z + v).toNat).drop z.toNat = (bs.drop z.toNat).take v.toNat := by
        rw [List.drop_take, show (z + v).toNat - z.toNat = v.toNat from by omega]
      have ed : bs.drop (z + v).toNat = (bs.drop z.toNat).drop v.toNat := by rw [List.drop_drop]; congr 1; omega
      rw [em] at hM hMR
      rw [ed] at hD hR hcD
      have hMw := hMR w hrd
      have HR := Aside0.mk hR
      have HF := Aside0.mk hF
      have HcD := Aside0.mk hcD
      have Hb := Aside0.mk (fun nd => blk_set (w := w.drewN nd) (g := g) hb 0 (.slice A' ((bs.drop z.toNat).drop v.toNat).length (c - (z + v).toNat)))
      obtain ⟨ld, hld⟩ : ∃ ld, ld = (bs.drop z.toNat).drop v.toNat := ⟨_, rfl⟩
      obtain ⟨lt, hlt⟩ : ∃ lt, lt = (bs.drop z.toNat).take v.toNat := ⟨_, rfl⟩
      rw [← hld] at hD HR HcD Hb ⊢
      rw [← hlt] at hM hMw ⊢
      have HMw := Aside0.mk hMw
      clear hz hsz hb hrd h8 hc hl hR hF hcD hld hlt hMR hMw em ed hi hz0 hz1 hz2
      go_enter Try.func60, Try.ntmps60
      go_wp2_with (first | (go_at_call 67; refine HN.out.mono ?_; rintro e w' ⟨rfl, ⟨nd, rfl⟩⟩; have hcv := string_of_reads (w := w.drewN nd) (c := c - z.toNat) (dst := 9) Try.underlying25 Try.underlying5 Try.underlying9 HMw.out))
      go_ret
      exact ⟨rfl, A', c - (z + v).toNat, Hb.out _, HcD.out, HR.out, HF.out, (KB.drawn ⟨⟨_, rfl⟩⟩).set_ 0 _⟩
end Go.Proofs.Ytnlbmhojjjjpdaa.Pk
