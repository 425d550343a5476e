/- Texts of one claim, slimmed and merged by slim.py. -/
import Derived.Test.YtiaccdaeomaogaaDoorP22
import Derived.Test.YtiaccdaeomaogaaDoorPProgDelays1
namespace Go.Proofs.YtiaccdaeomaogaaDoor.F
open Go.RowKit Go.Proofs.YtiaccdaeomaogaaDoorW.PrintWords Go.Proofs.YtiaccdaeomaogaaDoorW.PrintLast Go.Proofs.YtiaccdaeomaogaaDoorW.PrintMore
set_option linter.unusedVariables false
set_option linter.unusedSimpArgs false
def dN : ByteArray := ⟨#[110]⟩
def dE : S34 := ⟨1, 0, dN, []⟩
def dZ : S34 := ⟨0, 0, (⟨#[]⟩ : ByteArray), []⟩
def dNote : S67 := ⟨7, (⟨#[97]⟩ : ByteArray), (⟨#[]⟩ : ByteArray), dZ, 0⟩
def dDel : S67 := ⟨2, (⟨#[]⟩ : ByteArray), (⟨#[]⟩ : ByteArray), dE, 0⟩
def dCell (n : Int) : S69 := ⟨dN, n⟩
theorem okZ : OkE dZ := OkE.mk _ (by decide) (by decide) (by decide) (fun y hy => nomatch hy)
theorem okE : OkE dE := OkE.mk _ (by decide) (by decide) (by decide) (fun y hy => nomatch hy)
theorem eval_n (n : Int) : Tot (fun k => expr_Eval.f k dE.f0 dE.f1 dE.f2 dE.f3 [dCell n]) (n, 0) := by
  have hb : Tot (fun k => expr_May.f k dE.f0 dE.f1 dE.f2 dE.f3) true := upTo (f := fun k => expr_May.f k dE.f0 dE.f1 dE.f2 dE.f3) (expr_May.mono dE.f0 dE.f1 dE.f2 dE.f3) (show expr_May.f 30 dE.f0 dE.f1 dE.f2 dE.f3 = some true by decide +kernel)
  have hi : idxC dN [dCell n] = 0 := by
    have hc : cellB dN (dCell n) = true := by unfold cellB dCell; exact beq_self_eq_true dN.toList
    unfold idxC
    rw [List.findIdx?_cons, if_pos hc]; rfl
  have hr : Tot (fun k => expr_reckon.f k dE.f0 dE.f1 dE.f2 dE.f3 [dCell n]) (n, 0) := by
    refine Tot.succ ?_
    simp only [expr_reckon.f, dE, if_neg (show ¬ (1 : Int) = 0 by decide), if_true, expr_cell.f, hi, if_neg (show ¬ (0 : Int) < 0 by decide), Option.bind_some]
    exact Tot.const _
  exact Tot.bind hb (by simp only [if_true]; exact Tot.bind hr (Tot.const _))
def dProg (a : Nat) : List S67 := List.replicate a dNote ++ [dDel]
theorem dProg_len (a : Nat) : (dProg a).length = a + 1 := by simp [dProg]
theorem dProg_note {a i : Nat} (h : i < a) : rd_T67 (dProg a) (i : Int) = dNote := by
  unfold rd_T67 dProg
  rw [Int.toNat_natCast, List.getD, List.getElem?_append_left (by simpa using h), List.getElem?_replicate, if_pos h]; rfl
theorem dProg_del (a : Nat) : rd_T67 (dProg a) (a : Int) = dDel := by
  unfold rd_T67 dProg
  rw [Int.toNat_natCast, List.getD, List.getElem?_append_right (by simp)]; simp
theorem dProg_ok (a : Nat) : ∀ s ∈ dProg a, OkE s.f3 := by
  intro s hs
  unfold dProg at hs
  rcases List.mem_append.mp hs with h | h
  · rw [(List.mem_replicate.mp h).2]; exact okZ
  · rw [List.mem_singleton.mp h]; exact okE
theorem d_end (n after : Int) (sc : Int) (over : Bool) (l : List S67) (pc left : Int) (h : sc = (if n ≤ 0 then after + 1 else after + n + 1)) (h5 : 0 ≤ after ∧ after ≤ 5) (h1 : n ≤ 1000) (hI : I64 n) (hv : over = true) : Tot (fun k => malthouselaw11_ProgDelays.l1 k n after true l sc over pc left) true := by
  have hj : Tot (fun k => malthouselaw11_ProgDelays.j3 k n after true l sc false pc left) true := by
    refine Tot.succ ?_
    simp only [malthouselaw11_ProgDelays.j3, if_neg (show ¬ (false = true) by decide), if_true]
    by_cases hn : n ≤ 0
    · rw [if_pos hn] at h
      simp only [if_pos hn]
      rw [show wrap64 (after + 1) = after + 1 by unfold wrap64; omega, h, beq_self_eq_true]; exact Tot.const _
    · rw [if_neg hn] at h
      simp only [if_neg hn]
      rw [show wrap64 (wrap64 (after + n) + 1) = after + n + 1 by unfold wrap64; omega, h, beq_self_eq_true]; exact Tot.const _
  refine Tot.succ ?_
  simp only [malthouselaw11_ProgDelays.l1, hv, Bool.not_true]
  split
  · exact hj
  · exact hj
theorem d_step {n after sc : Int} {l : List S67} {pc left pc' left' : Int} {done : Bool} {w : List S72} (hs : sc < 1020) (h0 : 0 ≤ sc) (ht : Tot (fun k => prog_Scan.f k l pc left [dCell n]) (pc', left', w, done, 0)) (hn : Tot (fun k => malthouselaw11_ProgDelays.l1 k n after true l (sc + 1) done pc' left') true) : Tot (fun k => malthouselaw11_ProgDelays.l1 k n after true l sc false pc left) true := by
  refine Tot.succ ?_
  simp only [malthouselaw11_ProgDelays.l1, if_pos hs, Bool.not_false]
  refine Tot.succ ?_
  simp only [malthouselaw11_ProgDelays.j3, if_true]
  refine Tot.bind ht ?_
  simp only [if_true, show wrap64 (sc + 1) = sc + 1 by unfold wrap64; omega]
  exact hn
theorem d_left (n : Int) (a : Nat) (h5 : a ≤ 5) (hn : 0 < n) (h1 : n ≤ 1000) : ∀ (m : Nat) (left sc : Int), left = m + 1 → left ≤ n → sc = a + 1 + (n - left) → Tot (fun k => malthouselaw11_ProgDelays.l1 k n (a : Int) true (dProg a) sc false (a : Int) left) true
  | 0, left, sc, e, hl, hsc => by
    have hR : RightP (dProg a) a left := ⟨by omega, by rw [dProg_len]; omega, by omega, .inr ⟨by rw [dProg_len]; omega, by rw [dProg_del]; rfl⟩⟩
    have ht := scan_tot (en := [dCell n]) hR (dProg_ok a) (fun c hc => by rw [List.mem_singleton.mp hc]; show I64 n; unfold I64; omega)
    have ev : scanP (dProg a) a left [dCell n] = ((a : Int) + 1, 0, [], true, 0) := by
      unfold scanP
      rw [if_neg (by rw [dProg_len]; omega), dProg_del]
      have hnum : numP [dCell n] dDel left = (0, 0) := by unfold numP; rw [if_neg (fun h => by omega)]
      rw [hnum]
      have hgo : goP dDel a left 0 ((dProg a).length : Int) = (((a : Int) + 1, 0), [], 0) := by
        unfold goP
        rw [if_neg (by decide), if_neg (by decide), if_neg (by decide), if_pos (by decide), if_neg (by omega), if_neg (by omega), show wrap64 ((a : Int) + 1) = a + 1 by unfold wrap64; omega]
      simp only [hgo, if_true]
      rw [dProg_len]; simp
    rw [ev] at ht
    exact d_step (by omega) (by omega) ht (d_end n a _ true _ _ _ (by rw [if_neg (by omega)]; omega) (by omega) h1 (by unfold I64; omega) rfl)
  | m + 1, left, sc, e, hl, hsc => by
    have hR : RightP (dProg a) a left := ⟨by omega, by rw [dProg_len]; omega, by omega, .inr ⟨by rw [dProg_len]; omega, by rw [dProg_del]; rfl⟩⟩
    have ht := scan_tot (en := [dCell n]) hR (dProg_ok a) (fun c hc => by rw [List.mem_singleton.mp hc]; show I64 n; unfold I64; omega)
    have ev : scanP (dProg a) a left [dCell n] = ((a : Int), left - 1, [], false, 0) := by
      unfold scanP
      rw [if_neg (by rw [dProg_len]; omega), dProg_del]
      have hnum : numP [dCell n] dDel left = (0, 0) := by unfold numP; rw [if_neg (fun h => by omega)]
      rw [hnum]
      have hgo : goP dDel a left 0 ((dProg a).length : Int) = (((a : Int), left - 1), [], 0) := by
        unfold goP
        rw [if_neg (by decide), if_neg (by decide), if_neg (by decide), if_pos (by decide), if_pos (by omega), show wrap64 (left - 1) = left - 1 by unfold wrap64; omega]
      simp only [hgo, if_true]
      rw [dProg_len, beq_eq_false_iff_ne.mpr (show (a : Int) ≠ ((a + 1 : Nat) : Int) by omega)]
    rw [ev] at ht
    exact d_step (by omega) (by omega) ht (d_left n a h5 hn h1 m (left - 1) (sc + 1) (by omega) (by omega) (by omega))
theorem d_del (n : Int) (a : Nat) (h5 : a ≤ 5) (h1 : n ≤ 1000) (hI : I64 n) : Tot (fun k => malthouselaw11_ProgDelays.l1 k n (a : Int) true (dProg a) (a : Int) false (a : Int) 0) true := by
  have hR : RightP (dProg a) a 0 := ⟨by omega, by rw [dProg_len]; omega, by omega, .inl rfl⟩
  have hC : OkC [dCell n] := fun c hc => by rw [List.mem_singleton.mp hc]; exact hI
  have ht := scan_tot (en := [dCell n]) hR (dProg_ok a) hC
  have hnum : numP [dCell n] dDel 0 = (n, 0) := by
    unfold numP
    rw [if_pos ⟨by decide, rfl⟩]
    exact evV_eq (eval_n n)
  by_cases hn : n > 0
  · have ev : scanP (dProg a) a 0 [dCell n] = ((a : Int), n, [], false, 0) := by
      unfold scanP
      rw [if_neg (by rw [dProg_len]; omega), dProg_del, hnum]
      have hgo : goP dDel a 0 n ((dProg a).length : Int) = (((a : Int), n), [], 0) := by
        unfold goP
        rw [if_neg (by decide), if_neg (by decide), if_neg (by decide), if_pos (by decide), if_neg (by decide), if_pos rfl, if_pos hn]
      simp only [hgo, if_true]
      rw [dProg_len, beq_eq_false_iff_ne.mpr (show (a : Int) ≠ ((a + 1 : Nat) : Int) by omega)]
    rw [ev] at ht
    exact d_step (by omega) (by omega) ht (d_left n a h5 hn h1 (n - 1).toNat n _ (by omega) (by omega) (by omega))
  · have ev : scanP (dProg a) a 0 [dCell n] = ((a : Int) + 1, 0, [], true, 0) := by
      unfold scanP
      rw [if_neg (by rw [dProg_len]; omega), dProg_del, hnum]
      have hgo : goP dDel a 0 n ((dProg a).length : Int) = (((a : Int) + 1, 0), [], 0) := by
        unfold goP
        rw [if_neg (by decide), if_neg (by decide), if_neg (by decide), if_pos (by decide), if_neg (by decide), if_pos rfl, if_neg hn, show wrap64 ((a : Int) + 1) = a + 1 by unfold wrap64; omega]
      simp only [hgo, if_true]
      rw [dProg_len]; simp
    rw [ev] at ht
    exact d_step (by omega) (by omega) ht (d_end n a _ true _ _ _ (by rw [if_pos (by omega)]) (by omega) h1 hI rfl)
theorem d_notes (n : Int) (a : Nat) (h5 : a ≤ 5) (h1 : n ≤ 1000) (hI : I64 n) : ∀ (m i : Nat), i + m = a → Tot (fun k => malthouselaw11_ProgDelays.l1 k n (a : Int) true (dProg a) (i : Int) false (i : Int) 0) true
  | 0, i, e => by obtain rfl : i = a := (by omega); exact d_del n i h5 h1 hI
  | m + 1, i, e => by
    have hR : RightP (dProg a) i 0 := ⟨by omega, by rw [dProg_len]; omega, by omega, .inl rfl⟩
    have hC : OkC [dCell n] := fun c hc => by rw [List.mem_singleton.mp hc]; exact hI
    have ht := scan_tot (en := [dCell n]) hR (dProg_ok a) hC
    obtain ⟨w, ev⟩ : ∃ w, scanP (dProg a) i 0 [dCell n] = ((i : Int) + 1, 0, w, false, 0) := by
      unfold scanP
      rw [if_neg (by rw [dProg_len]; omega), dProg_note (show i < a by omega)]
      have hnum : numP [dCell n] dNote 0 = (0, 0) := by unfold numP; rw [if_neg (by decide)]
      rw [hnum]
      refine ⟨[⟨7, dNote.f1, (⟨#[]⟩ : ByteArray), 0⟩], ?_⟩
      have hgo : goP dNote i 0 0 ((dProg a).length : Int) = (((i : Int) + 1, 0), [⟨7, dNote.f1, (⟨#[]⟩ : ByteArray), 0⟩], 0) := by
        unfold goP
        rw [if_neg (by decide), if_pos (by decide), show wrap64 ((i : Int) + 1) = i + 1 by unfold wrap64; omega]; rfl
      simp only [hgo, if_true]
      rw [dProg_len, beq_eq_false_iff_ne.mpr (show (i : Int) + 1 ≠ ((a + 1 : Nat) : Int) by omega)]
    rw [ev] at ht
    exact d_step (by omega) (by omega) ht (d_notes n a h5 h1 hI m (i + 1) (by omega))
theorem ProgDelays_pure (n after : Int) (hI : I64 n) : ∃ k, malthouselaw11_ProgDelays.f k n after = some true := by
  suffices h : Tot (fun k => malthouselaw11_ProgDelays.f k n after) true by
    obtain ⟨K, hK⟩ := h; exact ⟨K, hK K (Nat.le_refl _)⟩
  have J : Tot (fun k => malthouselaw11_ProgDelays.j0 k n after true true) true := Tot.succ (by simp only [malthouselaw11_ProgDelays.j0, if_true]; exact Tot.const _)
  unfold malthouselaw11_ProgDelays.f
  refine Tot.bind awake11_tot ?_
  by_cases h1 : n > 1000
  · simp only [if_pos h1]; exact J
  by_cases h2 : after < 0
  · simp only [if_neg h1, if_pos h2]; exact J
  by_cases h3 : after > 5
  · simp only [if_neg h1, if_neg h2, h3, decide_true]; exact J
  simp only [if_neg h1, if_neg h2, h3, decide_false]
  refine Tot.succ ?_
  simp only [malthouselaw11_ProgDelays.j0, if_neg (show ¬ (false = true) by decide)]
  obtain ⟨a, rfl⟩ : ∃ a : Nat, after = (a : Int) := ⟨after.toNat, by omega⟩
  have L : ∀ (m i : Nat), i + m = a → Tot (fun k => malthouselaw11_ProgDelays.l0 k n (a : Int) true (List.replicate i dNote) (i : Int)) true := by
    intro m
    induction m with
    | zero =>
      intro i e
      obtain rfl : i = a := by omega
      refine Tot.succ ?_
      simp only [malthouselaw11_ProgDelays.l0, if_neg (show ¬ (i : Int) < (i : Int) by omega), List.length_replicate, if_pos (show i < 1353245080339 by omega)]
      exact d_notes n i (by omega) (by omega) hI i 0 (by omega)
    | succ m ih =>
      intro i e
      refine Tot.succ ?_
      simp only [malthouselaw11_ProgDelays.l0, if_pos (show (i : Int) < (a : Int) by omega), List.length_replicate, if_pos (show i < 1353245080339 by omega), show wrap64 ((i : Int) + 1) = ((i + 1 : Nat) : Int) by unfold wrap64; omega]
      have := ih (i + 1) (by omega)
      rw [List.replicate_succ'] at this
      exact this
  exact L a 0 (by omega)
end Go.Proofs.YtiaccdaeomaogaaDoor.F
