/- Texts of one claim, slimmed and merged by slim.py. -/
import Derived.Test.YtiaccdaeomaogaaDoorR37
import Derived.Test.YtiaccdaeomaogaaDoorRRungChecks1
namespace Go.Proofs.YtiaccdaeomaogaaDoor.F
open Go.RowKit Go.Proofs.YtiaccdaeomaogaaDoorW.PrintWords Go.Proofs.YtiaccdaeomaogaaDoorW.PrintLast Go.Proofs.YtiaccdaeomaogaaDoorW.PrintMore
set_option linter.unusedVariables false
set_option linter.unusedSimpArgs false
set_option maxHeartbeats 1000000 in
theorem codeB (bits tags : List ByteArray) (hb : bits.length < 9223372036854775807) (ht : tags.length < 9223372036854775807) (l : List S40) (hl : l.length ≤ 50) (hE : ∀ x ∈ l, OkE x.f2) : ∀ (m i : Nat) (n : Int), i + m = l.length → 0 ≤ n → n ≤ 8 → Tot (fun k => malthouseref09_Code.l0 k l bits tags false n (i : Int)) (codeE bits tags n (l.drop i))
  | 0, i, n, e, h0, h8 => by
    refine Tot.succ ?_
    simp only [malthouseref09_Code.l0, if_neg (show ¬ (i : Int) < (l.length : Int) by omega)]
    rw [List.drop_eq_nil_of_le (by omega), codeE]
    by_cases c : n = 1
    · simp only [if_pos c]; exact Tot.const _
    · simp only [if_neg c]; exact Tot.const _
  | m + 1, i, n, e, h0, h8 => by
    have hi : i < l.length := by omega
    have hx := hE _ (rd40_mem hi)
    have Nx := fun n' (g0 : 0 ≤ n') (g8 : n' ≤ 8) => codeB bits tags hb ht l hl hE m (i + 1) n' (by omega) g0 g8
    have W := w1 (show 0 ≤ (i : Int) by omega) (show (i : Int) < 9223372036854775807 by omega)
    rw [drop40 hi, codeE]
    refine Tot.succ ?_
    simp only [malthouseref09_Code.l0, if_pos (show (i : Int) < (l.length : Int) by omega), if_pos (show 0 ≤ (i : Int) by omega)]
    generalize rd_T40 l (i : Int) = x at *
    obtain ⟨q0, q2⟩ := needI_bd x.f0
    obtain ⟨R, hR⟩ : ∃ R, (if insE bits tags n x = 0 then codeE bits tags (n - needI x.f0 + 1) (l.drop (i + 1)) else insE bits tags n x) = R := ⟨_, rfl⟩
    rw [hR]
    -- behind the names
    have D : formI x = true → ¬ (ownI x.f0 = true ∧ inL bits x.f1 = false) → ¬ (x.f0 = 2 ∧ knownP tags x.f2 = false) → ¬ (x.f0 = 2 ∧ mayP x.f2 = false) → Tot (fun k => (malthouseref09_needs.f k x.f0).bind fun t112 => (if n < t112 then (some 1) else (if (wrap64 ((wrap64 (n - t112)) + 1)) > 8 then (some 1) else (malthouseref09_Code.l0 k l bits tags false (wrap64 ((wrap64 (n - t112)) + 1)) (wrap64 ((i : Int) + 1)))))) R := fun hf g1 g2 g3 => by
      have ei : insE bits tags n x = if n < needI x.f0 ∨ n - needI x.f0 + 1 > 8 then 1 else 0 := by unfold insE; rw [if_neg (by rw [hf]; decide), if_neg g1, if_neg g2, if_neg g3]
      have e1 : wrap64 (wrap64 (n - needI x.f0) + 1) = n - needI x.f0 + 1 := by unfold wrap64; omega
      rw [ei] at hR
      refine Tot.bind (needB x.f0) ?_
      simp only [e1, W]
      by_cases c1 : n < needI x.f0
      · rw [if_pos (show n < needI x.f0 ∨ n - needI x.f0 + 1 > 8 from .inl c1), if_neg (by decide)] at hR
        simp only [if_pos c1, ← hR]; exact Tot.const _
      by_cases c2 : n - needI x.f0 + 1 > 8
      · rw [if_pos (show n < needI x.f0 ∨ n - needI x.f0 + 1 > 8 from .inr c2), if_neg (by decide)] at hR
        simp only [if_neg c1, if_pos c2, ← hR]; exact Tot.const _
      · rw [if_neg (show ¬ (n < needI x.f0 ∨ n - needI x.f0 + 1 > 8) from fun h => h.elim c1 c2), if_pos rfl] at hR
        simp only [if_neg c1, if_neg c2, ← hR]; exact Nx _ (by omega) (by omega)
    have J3t : Tot (fun k => malthouseref09_Code.j3 k l bits tags false n (i : Int) true x.f0 x.f1 x.f2.f0 x.f2.f1 x.f2.f2 x.f2.f3) 21 := Tot.succ (by simp only [malthouseref09_Code.j3, if_true]; exact Tot.const _)
    have J3 : formI x = true → ¬ (ownI x.f0 = true ∧ inL bits x.f1 = false) → Tot (fun k => malthouseref09_Code.j3 k l bits tags false n (i : Int) false x.f0 x.f1 x.f2.f0 x.f2.f1 x.f2.f2 x.f2.f3) R := fun hf g1 => by
      refine Tot.succ ?_
      simp only [malthouseref09_Code.j3, ff]
      by_cases o2 : x.f0 = 2
      rotate_left
      · simp only [if_neg o2]; exact D hf g1 (fun h => o2 h.1) (fun h => o2 h.1)
      simp only [if_pos o2]
      obtain ⟨nm, hnm, nl, nmem⟩ := namesB_tot hx
      have hall := known_all (cells := tags) nmem
      refine Tot.bind hnm ?_
      have M : ∀ j : Int, knownP tags x.f2 = true → Tot (fun k => malthouseref09_Code.j5 k l bits tags false n (i : Int) nm j false x.f0 x.f1 x.f2.f0 x.f2.f1 x.f2.f2 x.f2.f3) R := fun j hk => by
        refine Tot.succ ?_
        simp only [malthouseref09_Code.j5, ff]
        refine Tot.bind (may_both hx).2.1 ?_
        cases hm : mayP x.f2 with
        | true => simp only [if_true]; exact D hf g1 (fun h => by rw [hk] at h; cases h.2) (fun h => by rw [hm] at h; cases h.2)
        | false =>
          have ei : insE bits tags n x = 1 := by unfold insE; rw [if_neg (by rw [hf]; decide), if_neg g1, if_neg (fun h => by rw [hk] at h; cases h.2), if_pos ⟨o2, hm⟩]
          rw [ei, if_neg (by decide)] at hR
          simp only [ff, ← hR]; exact Tot.const _
      have NL : ∀ (m' j : Nat), j + m' = nm.length → (nm.take j).all (inL tags) = true → Tot (fun k => malthouseref09_Code.l1 k l bits tags false n (i : Int) nm (j : Int) x.f0 x.f1 x.f2.f0 x.f2.f1 x.f2.f2 x.f2.f3) R := by
        intro m'
        induction m' with
        | zero =>
          intro j e ha
          rw [List.take_of_length_le (by omega)] at ha
          refine Tot.succ ?_
          simp only [malthouseref09_Code.l1, if_neg (show ¬ (j : Int) < (nm.length : Int) by omega)]
          exact M _ (by rw [hall]; exact ha)
        | succ m' ihm =>
          intro j e ha
          refine Tot.succ ?_
          simp only [malthouseref09_Code.l1, if_pos (show (j : Int) < (nm.length : Int) by omega), Bool.not_false]
          refine Tot.succ ?_
          simp only [malthouseref09_Code.j5, if_true, if_pos (show 0 ≤ (j : Int) by omega), if_pos (show (j : Int) < (nm.length : Int) by omega), w1 (show 0 ≤ (j : Int) by omega) (show (j : Int) < 9223372036854775807 by omega)]
          refine Tot.bind (placeB tags _ ht) ?_
          have hd := drop_rd ByteArray.empty (show j < nm.length by omega)
          by_cases c : ixF tags (rdOf ByteArray.empty nm (j : Int)) 0 < 0
          · have hk : knownP tags x.f2 = false := by
              rw [hall]
              cases hz : nm.all (inL tags) with
              | false => rfl
              | true =>
                have hmem : rdOf ByteArray.empty nm (j : Int) ∈ nm := List.mem_of_mem_drop (by rw [hd]; exact .head _)
                have := List.all_eq_true.mp hz _ hmem
                unfold inL at this
                have := of_decide_eq_true this
                omega
            have ei : insE bits tags n x = 21 := by unfold insE; rw [if_neg (by rw [hf]; decide), if_neg g1, if_pos ⟨o2, hk⟩]
            rw [ei, if_neg (by decide)] at hR
            simp only [if_pos c, ← hR]; exact Tot.const _
          · simp only [if_neg c]
            refine ihm (j + 1) (by omega) ?_
            rw [List.take_succ_eq_append_getElem (show j < nm.length by omega), List.all_append, ha, Bool.true_and, List.all_cons, List.all_nil, Bool.and_true]
            have e2 : nm[j] = rdOf ByteArray.empty nm (j : Int) := by
              unfold rdOf; rw [Int.toNat_natCast, List.getD, List.getElem?_eq_getElem (by omega)]; rfl
            rw [e2]; unfold inL; exact decide_eq_true (by omega)
      exact NL nm.length 0 (by omega) (by simp)
    have J2t : Tot (fun k => malthouseref09_Code.j2 k l bits tags false n (i : Int) (ownI x.f0) true x.f0 x.f1 x.f2.f0 x.f2.f1 x.f2.f2 x.f2.f3) 1 := Tot.succ (by simp only [malthouseref09_Code.j2, if_true]; exact Tot.const _)
    have J2 : formI x = true → Tot (fun k => malthouseref09_Code.j2 k l bits tags false n (i : Int) (ownI x.f0) false x.f0 x.f1 x.f2.f0 x.f2.f1 x.f2.f2 x.f2.f3) R := fun hf => by
      refine Tot.succ ?_
      simp only [malthouseref09_Code.j2, ff]
      by_cases co : ownI x.f0 = true
      · simp only [if_pos co]
        refine Tot.bind (placeB bits x.f1 hb) ?_
        by_cases c : ixF bits x.f1 0 < 0
        · have hk : inL bits x.f1 = false := by unfold inL; exact decide_eq_false (by omega)
          have ei : insE bits tags n x = 21 := by unfold insE; rw [if_neg (by rw [hf]; decide), if_pos ⟨co, hk⟩]
          rw [ei, if_neg (by decide)] at hR
          simp only [decide_eq_true c, ← hR]; exact J3t
        · have hk : inL bits x.f1 = true := by unfold inL; exact decide_eq_true (by omega)
          simp only [decide_eq_false c]; exact J3 hf (fun h => by rw [hk] at h; cases h.2)
      · simp only [if_neg co]; exact J3 hf (fun h => co h.1)
    have bad : formI x = false → R = 1 := fun h => by
      have ei : insE bits tags n x = 1 := by unfold insE; rw [if_pos h]
      rw [ei, if_neg (by decide)] at hR; exact hR.symm
    have J1 : Tot (fun k => malthouseref09_Code.j1 k l bits tags false n (i : Int) (ownI x.f0) (blankB x.f2) x.f0 x.f1 x.f2.f0 x.f2.f1 x.f2.f2 x.f2.f3) R := by
      refine Tot.succ ?_
      simp only [malthouseref09_Code.j1]
      by_cases r0 : x.f0 < 0
      · rw [bad (decide_eq_false (fun h => by omega))]
        simp only [if_pos r0]; exact J2t
      by_cases r9 : x.f0 > 9
      · rw [bad (decide_eq_false (fun h => by omega))]
        simp only [if_neg r0, if_pos r9]; exact J2t
      simp only [if_neg r0, if_neg r9]
      have B : (ownI x.f0 = false → x.f1.toList = ([] : List UInt8)) → Tot (fun k => if x.f0 = 2 then malthouseref09_Code.j2 k l bits tags false n (i : Int) (ownI x.f0) false x.f0 x.f1 x.f2.f0 x.f2.f1 x.f2.f2 x.f2.f3 else malthouseref09_Code.j2 k l bits tags false n (i : Int) (ownI x.f0) (!blankB x.f2) x.f0 x.f1 x.f2.f0 x.f2.f1 x.f2.f2 x.f2.f3) R := fun h1 => by
        by_cases o2 : x.f0 = 2
        · simp only [if_pos o2]; exact J2 (decide_eq_true ⟨by omega, by omega, h1, fun h => absurd o2 h⟩)
        · simp only [if_neg o2]
          cases hB : blankB x.f2 with
          | true => simp only [Bool.not_true]; exact J2 (decide_eq_true ⟨by omega, by omega, h1, fun _ => hB⟩)
          | false =>
            rw [bad (decide_eq_false (fun h => by have := h.2.2.2 o2; rw [hB] at this; cases this))]
            simp only [Bool.not_false]; exact J2t
      by_cases co : ownI x.f0 = true
      · simp only [if_pos co]
        have := B (fun h => by rw [co] at h; cases h)
        exact this
      · have co' : ownI x.f0 = false := by simpa using co
        simp only [if_neg co]
        by_cases c : x.f1.toList = ([] : List UInt8)
        · simp only [if_pos c]; exact B (fun _ => c)
        · rw [bad (decide_eq_false (fun h => c (h.2.2.1 co')))]
          simp only [if_neg c]; exact J2t
    simp only [ownB, Option.bind_some]
    unfold blankB at J1
    by_cases c1 : x.f2.f0 = 0
    · by_cases c2 : x.f2.f1 = 0
      · by_cases c3 : x.f2.f2.toList = ([] : List UInt8)
        · by_cases c4 : (x.f2.f3.length : Int) = 0
          · rw [decide_eq_true ⟨c1, c2, c3, c4⟩] at J1
            simp only [if_pos c1, if_pos c2, if_pos c3, show ((x.f2.f3.length : Int) == 0) = true from beq_iff_eq.mpr c4]; exact J1
          · rw [decide_eq_false (fun h => c4 h.2.2.2)] at J1
            simp only [if_pos c1, if_pos c2, if_pos c3, show ((x.f2.f3.length : Int) == 0) = false from beq_eq_false_iff_ne.mpr c4]; exact J1
        · rw [decide_eq_false (fun h => c3 h.2.2.1)] at J1
          simp only [if_pos c1, if_pos c2, if_neg c3]; exact J1
      · rw [decide_eq_false (fun h => c2 h.2.1)] at J1
        simp only [if_pos c1, if_neg c2]; exact J1
    · rw [decide_eq_false (fun h => c1 h.1)] at J1
      simp only [if_neg c1]; exact J1
noncomputable def codeV (bits tags : List ByteArray) (l : List S40) : Int := if (l.length : Int) > 12 then 2 else codeE bits tags 0 l
noncomputable def rungE (bits tags phases : List ByteArray) (r : S43) : Int :=
  if ¬ (0 ≤ r.f0 ∧ r.f0 ≤ 4) ∨ nameP r.f1 = false then 1 else if r.f0 ≥ 3 ∧ inL phases r.f1 = false then 21 else codeV bits tags r.f2
noncomputable def rungsE (bits tags phases : List ByteArray) : List S43 → Int
  | [] => 0
  | r :: l => if rungE bits tags phases r = 0 then rungsE bits tags phases l else rungE bits tags phases r
noncomputable def checkV (tags phases : List ByteArray) (l : List S43) : Int := if (l.length : Int) > 12 then 2 else rungsE (bitsP l) tags phases l
theorem codeVA (bits tags : List ByteArray) (hb : bits.length < 9223372036854775807) (ht : tags.length < 9223372036854775807) (l : List S40) (hl : l.length ≤ 50) (hE : ∀ x ∈ l, OkE x.f2) : Tot (fun k => rung_code.f k l bits tags) (codeV bits tags l) := by
  unfold rung_code.f codeV
  by_cases c : (l.length : Int) > 12
  · simp only [if_pos c]; exact Tot.const _
  · simp only [if_neg c]
    have := codeA bits tags hb ht l hl hE l.length 0 0 (by omega) (by omega) (by omega)
    rw [List.drop_zero] at this; exact this
theorem codeVB (bits tags : List ByteArray) (hb : bits.length < 9223372036854775807) (ht : tags.length < 9223372036854775807) (l : List S40) (hl : l.length ≤ 50) (hE : ∀ x ∈ l, OkE x.f2) : Tot (fun k => malthouseref09_Code.f k l bits tags false) (codeV bits tags l) := by
  unfold malthouseref09_Code.f codeV
  by_cases c : (l.length : Int) > 12
  · simp only [if_pos c]; exact Tot.const _
  · simp only [if_neg c]
    have := codeB bits tags hb ht l hl hE l.length 0 0 (by omega) (by omega) (by omega)
    rw [List.drop_zero] at this; exact this
theorem checkVA (tags phases : List ByteArray) (ht : tags.length < 8796093022208) (hp : phases.length < 9223372036854775807) (l : List S43) (hl : l.length ≤ 50) (hR : ∀ r ∈ l, OkR r) : Tot (fun k => rung_Check.f k l tags phases) (checkV tags phases l) := by
  unfold rung_Check.f rung_check.f checkV
  simp only [if_pos ht]
  by_cases c : (l.length : Int) > 12
  · simp only [if_pos c]; exact Tot.const _
  simp only [if_neg c]
  refine Tot.bind (bits_tot l (by omega)) ?_
  have hb : (bitsP l).length < 9223372036854775807 := by have := bitsP_len l; omega
  generalize bitsP l = bits at *
  have L : ∀ (m i : Nat), i + m = l.length → Tot (fun k => rung_check.l0 k tags phases bits l (l.length : Int) (i : Int)) (rungsE bits tags phases (l.drop i)) := by
    intro m
    induction m with
    | zero =>
      intro i e
      refine Tot.succ ?_
      simp only [rung_check.l0, if_neg (show ¬ (i : Int) < (l.length : Int) by omega)]
      rw [List.drop_eq_nil_of_le (by omega)]; exact Tot.const _
    | succ m ih =>
      intro i e
      have hi : i < l.length := by omega
      have Nx := ih (i + 1) (by omega)
      obtain ⟨r1, r2, r3⟩ := hR _ (rd43_mem hi)
      have W := w1 (show 0 ≤ (i : Int) by omega) (show (i : Int) < 9223372036854775807 by omega)
      rw [drop43 hi, rungsE]
      refine Tot.succ ?_
      simp only [rung_check.l0, if_pos (show (i : Int) < (l.length : Int) by omega), if_pos (show 0 ≤ (i : Int) by omega)]
      generalize rd_T43 l (i : Int) = r at *
      have J1t : Tot (fun k => rung_check.j1 k tags phases bits l (l.length : Int) (i : Int) true r.f0 r.f1 r.f2) 1 := Tot.succ (by simp only [rung_check.j1, if_true]; exact Tot.const _)
      have J2t : Tot (fun k => rung_check.j2 k tags phases bits l (l.length : Int) (i : Int) true r.f0 r.f1 r.f2) 21 := Tot.succ (by simp only [rung_check.j2, if_true]; exact Tot.const _)
      have J2 : Tot (fun k => rung_check.j2 k tags phases bits l (l.length : Int) (i : Int) false r.f0 r.f1 r.f2) (if codeV bits tags r.f2 = 0 then rungsE bits tags phases (l.drop (i + 1)) else codeV bits tags r.f2) := by
        refine Tot.succ ?_
        simp only [rung_check.j2, ff, W]
        refine Tot.bind (codeVA bits tags hb (by omega) r.f2 r2 r3) ?_
        by_cases c : codeV bits tags r.f2 = 0
        · simp only [if_pos c]; exact Nx
        · simp only [if_neg c]; exact Tot.const _
      unfold rungE
      by_cases k0 : r.f0 < 0
      · simp only [if_pos k0, if_pos (show ¬ (0 ≤ r.f0 ∧ r.f0 ≤ 4) ∨ nameP r.f1 = false from .inl (by omega)), if_neg (show ¬ (1 : Int) = 0 by decide)]; exact J1t
      by_cases k4 : r.f0 > 4
      · simp only [if_neg k0, if_pos k4, if_pos (show ¬ (0 ≤ r.f0 ∧ r.f0 ≤ 4) ∨ nameP r.f1 = false from .inl (by omega)), if_neg (show ¬ (1 : Int) = 0 by decide)]; exact J1t
      simp only [if_neg k0, if_neg k4, lexName_eq r.f1 (by omega), Option.bind_some]
      cases hn : nameP r.f1 with
      | false =>
        rw [if_pos (show ¬ (0 ≤ r.f0 ∧ r.f0 ≤ 4) ∨ false = false from .inr rfl), if_neg (show ¬ (1 : Int) = 0 by decide)]
        simp only [Bool.not_false]; exact J1t
      | true =>
      simp only [Bool.not_true, if_neg (show ¬ (¬ (0 ≤ r.f0 ∧ r.f0 ≤ 4) ∨ true = false) from fun h => h.elim (fun h => h ⟨by omega, by omega⟩) (fun h => nomatch h))]
      refine Tot.succ ?_
      simp only [rung_check.j1, ff]
      by_cases k3 : r.f0 ≥ 3
      · simp only [if_pos k3]
        refine Tot.bind (hasA phases r.f1 hp) ?_
        cases hk : inL phases r.f1 with
        | false =>
          rw [if_pos (And.intro k3 rfl : r.f0 ≥ 3 ∧ false = false), if_neg (show ¬ (21 : Int) = 0 by decide)]
          simp only [Bool.not_false]; exact J2t
        | true => simp only [Bool.not_true, if_neg (show ¬ (r.f0 ≥ 3 ∧ true = false) from fun h => nomatch h.2)]; exact J2
      · simp only [if_neg k3, if_neg (show ¬ (r.f0 ≥ 3 ∧ inL phases r.f1 = false) from fun h => k3 h.1)]; exact J2
  have := L l.length 0 (by omega)
  rw [List.drop_zero] at this; exact this
theorem checkVB (tags phases : List ByteArray) (ht : tags.length < 8796093022208) (hp : phases.length < 9223372036854775807) (l : List S43) (hl : l.length ≤ 50) (hR : ∀ r ∈ l, OkR r) : Tot (fun k => malthouseref09_Check.f k l tags phases) (checkV tags phases l) := by
  unfold malthouseref09_Check.f
  suffices h : Tot (fun k => malthouseref09_check.f k l tags phases false) (checkV tags phases l) from Tot.bind h (Tot.const _)
  unfold malthouseref09_check.f checkV
  by_cases c : (l.length : Int) > 12
  · simp only [if_pos c]; exact Tot.const _
  simp only [if_neg c]
  refine Tot.bind (docBits_tot l (by omega)) ?_
  have hb : (bitsP l).length < 9223372036854775807 := by have := bitsP_len l; omega
  generalize bitsP l = bits at *
  have L : ∀ (m i : Nat), i + m = l.length → Tot (fun k => malthouseref09_check.l0 k l tags phases false bits (i : Int)) (rungsE bits tags phases (l.drop i)) := by
    intro m
    induction m with
    | zero =>
      intro i e
      refine Tot.succ ?_
      simp only [malthouseref09_check.l0, if_neg (show ¬ (i : Int) < (l.length : Int) by omega)]
      rw [List.drop_eq_nil_of_le (by omega)]; exact Tot.const _
    | succ m ih =>
      intro i e
      have hi : i < l.length := by omega
      have Nx := ih (i + 1) (by omega)
      obtain ⟨r1, r2, r3⟩ := hR _ (rd43_mem hi)
      have W := w1 (show 0 ≤ (i : Int) by omega) (show (i : Int) < 9223372036854775807 by omega)
      rw [drop43 hi, rungsE]
      refine Tot.succ ?_
      simp only [malthouseref09_check.l0, if_pos (show (i : Int) < (l.length : Int) by omega), if_pos (show 0 ≤ (i : Int) by omega)]
      have J1t : Tot (fun k => malthouseref09_check.j1 k l tags phases false bits (i : Int) true) 1 := Tot.succ (by simp only [malthouseref09_check.j1, if_true]; exact Tot.const _)
      have J2t : Tot (fun k => malthouseref09_check.j2 k l tags phases false bits (i : Int) true) 21 := Tot.succ (by simp only [malthouseref09_check.j2, if_true]; exact Tot.const _)
      obtain ⟨r, hr⟩ : ∃ r, rd_T43 l (i : Int) = r := ⟨_, rfl⟩
      rw [hr] at r1 r2 r3
      simp only [hr]
      have J2 : Tot (fun k => malthouseref09_check.j2 k l tags phases false bits (i : Int) false) (if codeV bits tags r.f2 = 0 then rungsE bits tags phases (l.drop (i + 1)) else codeV bits tags r.f2) := by
        refine Tot.succ ?_
        simp only [malthouseref09_check.j2, ff, W, if_pos (show (i : Int) < (l.length : Int) by omega), if_pos (show 0 ≤ (i : Int) by omega), hr]
        refine Tot.bind (codeVB bits tags hb (by omega) r.f2 r2 r3) ?_
        by_cases c : codeV bits tags r.f2 = 0
        · simp only [if_pos c]; exact Nx
        · simp only [if_neg c]; exact Tot.const _
      unfold rungE
      refine Tot.bind (docName_tot r.f1 (by omega)) ?_
      by_cases k0 : r.f0 < 0
      · simp only [if_pos k0, if_pos (show ¬ (0 ≤ r.f0 ∧ r.f0 ≤ 4) ∨ nameP r.f1 = false from .inl (by omega)), if_neg (show ¬ (1 : Int) = 0 by decide)]; exact J1t
      by_cases k4 : r.f0 > 4
      · simp only [if_neg k0, if_pos k4, if_pos (show ¬ (0 ≤ r.f0 ∧ r.f0 ≤ 4) ∨ nameP r.f1 = false from .inl (by omega)), if_neg (show ¬ (1 : Int) = 0 by decide)]; exact J1t
      simp only [if_neg k0, if_neg k4]
      cases hn : nameP r.f1 with
      | false =>
        rw [if_pos (show ¬ (0 ≤ r.f0 ∧ r.f0 ≤ 4) ∨ false = false from .inr rfl), if_neg (show ¬ (1 : Int) = 0 by decide)]
        simp only [Bool.not_false]; exact J1t
      | true =>
      simp only [Bool.not_true, if_neg (show ¬ (¬ (0 ≤ r.f0 ∧ r.f0 ≤ 4) ∨ true = false) from fun h => h.elim (fun h => h ⟨by omega, by omega⟩) (fun h => nomatch h))]
      refine Tot.succ ?_
      simp only [malthouseref09_check.j1, ff, if_pos (show (i : Int) < (l.length : Int) by omega), if_pos (show 0 ≤ (i : Int) by omega), hr]
      have Q : r.f0 ≥ 3 → Tot (fun k => (malthouseref09_Place.f k phases r.f1).bind fun t110 => malthouseref09_check.j2 k l tags phases false bits (i : Int) (decide (t110 < 0))) (if (if r.f0 ≥ 3 ∧ inL phases r.f1 = false then (21 : Int) else codeV bits tags r.f2) = 0 then rungsE bits tags phases (l.drop (i + 1)) else (if r.f0 ≥ 3 ∧ inL phases r.f1 = false then (21 : Int) else codeV bits tags r.f2)) := fun k3 => by
        refine Tot.bind (placeB phases r.f1 hp) ?_
        by_cases c : ixF phases r.f1 0 < 0
        · have hk : inL phases r.f1 = false := by unfold inL; exact decide_eq_false (by omega)
          simp only [decide_eq_true c, if_pos (And.intro k3 hk), if_neg (show ¬ (21 : Int) = 0 by decide)]; exact J2t
        · have hk : ¬ (r.f0 ≥ 3 ∧ inL phases r.f1 = false) := fun h => by
            have : inL phases r.f1 = true := by unfold inL; exact decide_eq_true (by omega)
            rw [this] at h; cases h.2
          simp only [decide_eq_false c, if_neg hk]; exact J2
      by_cases k3 : r.f0 = 3
      · simp only [if_pos k3]; exact Q (by omega)
      by_cases k4' : r.f0 = 4
      · simp only [if_neg k3, if_pos k4']; exact Q (by omega)
      · simp only [if_neg k3, if_neg k4', if_neg (show ¬ (r.f0 ≥ 3 ∧ inL phases r.f1 = false) from fun h => by have := h.1; omega)]; exact J2
  have := L l.length 0 (by omega)
  rw [List.drop_zero] at this; exact this
theorem names09_tot (l : List ByteArray) : ∃ b, Tot (fun k => malthouselaw09_names.f k l) b ∧ (b = true → l.length ≤ 100) := by
  unfold malthouselaw09_names.f
  by_cases h : (l.length : Int) > 100
  · simp only [if_pos h]; exact ⟨false, Tot.const _, fun h => by cases h⟩
  · simp only [if_neg h]
    have L : ∀ (m i : Nat), i + m = l.length → ∃ b, Tot (fun k => malthouselaw09_names.l0 k l (i : Int)) b := by
      intro m
      induction m with
      | zero => intro i e; exact ⟨true, Tot.succ (by simp only [malthouselaw09_names.l0, if_neg (show ¬ (i : Int) < (l.length : Int) by omega)]; exact Tot.const _)⟩
      | succ m ih =>
        intro i e
        by_cases hn : ((rdOf ByteArray.empty l (i : Int)).size : Int) > 200
        · exact ⟨false, Tot.succ (by simp only [malthouselaw09_names.l0, if_pos (show (i : Int) < (l.length : Int) by omega), if_pos (show 0 ≤ (i : Int) by omega), if_pos hn]; exact Tot.const _)⟩
        · obtain ⟨b, hb⟩ := ih (i + 1) (by omega)
          exact ⟨b, Tot.succ (by simp only [malthouselaw09_names.l0, if_pos (show (i : Int) < (l.length : Int) by omega), if_pos (show 0 ≤ (i : Int) by omega), if_neg hn, w1 (show 0 ≤ (i : Int) by omega) (show (i : Int) < 9223372036854775807 by omega)]; exact hb)⟩
    obtain ⟨b, hb⟩ := L l.length 0 (by omega)
    exact ⟨b, hb, fun _ => by omega⟩
theorem RungChecks_pure (l0 : List S43) (l1 l2 : List ByteArray) (hI : ∀ y ∈ l0, InR y) : ∃ k, malthouselaw09_RungChecks.f k l0 l1 l2 = some true := by
  suffices h : Tot (fun k => malthouselaw09_RungChecks.f k l0 l1 l2) true by
    obtain ⟨K, hK⟩ := h; exact ⟨K, hK K (Nat.le_refl _)⟩
  obtain ⟨b1, hb1, k1⟩ := Light_tot l0 hI
  obtain ⟨b2, hb2, k2⟩ := names09_tot l1
  obtain ⟨b3, hb3, k3⟩ := names09_tot l2
  have J : Tot (fun k => malthouselaw09_RungChecks.j0 k l0 l1 l2 true true) true := Tot.succ (by simp only [malthouselaw09_RungChecks.j0, if_true]; exact Tot.const _)
  unfold malthouselaw09_RungChecks.f
  refine Tot.bind awake_tot (Tot.bind hb1 (Tot.bind hb2 (Tot.bind hb3 ?_)))
  simp only [if_true]
  cases b1 with
  | false => simp only [ff]; exact J
  | true =>
  cases b2 with
  | false => simp only [ff, if_true]; exact J
  | true =>
  cases b3 with
  | false => simp only [if_true]; exact J
  | true =>
  simp only [if_true, Bool.not_true]
  refine Tot.succ ?_
  simp only [malthouselaw09_RungChecks.j0, ff]
  obtain ⟨hl, hR⟩ := k1 rfl
  have h1 := k2 rfl
  have h2 := k3 rfl
  have hb := bitsP_len l0
  refine Tot.bind (bits_tot l0 (by omega)) (Tot.bind (docBits_tot l0 (by omega)) (Tot.bind (Texts_same (bitsP l0) (by omega)) ?_))
  simp only [if_true]
  exact Tot.bind (checkVA l1 l2 (by omega) (by omega) l0 hl hR) (Tot.bind (checkVB l1 l2 (by omega) (by omega) l0 hl hR) (by simp only [beq_self_eq_true]; exact Tot.const _))
end Go.Proofs.YtiaccdaeomaogaaDoor.F
