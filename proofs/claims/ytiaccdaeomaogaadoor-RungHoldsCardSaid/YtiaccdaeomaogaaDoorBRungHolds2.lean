/- Texts of one claim, slimmed and merged by slim.py. -/
import Derived.Test.YtiaccdaeomaogaaDoorB7
import Derived.Test.YtiaccdaeomaogaaDoorBRungHolds1
namespace Go.Proofs.YtiaccdaeomaogaaDoor.F
open Go.RowKit Go.Proofs.YtiaccdaeomaogaaDoorW.PrintWords Go.Proofs.YtiaccdaeomaogaaDoorW.PrintLast Go.Proofs.YtiaccdaeomaogaaDoorW.PrintMore
set_option linter.unusedVariables false
set_option linter.unusedSimpArgs false
def hP : ByteArray := ⟨#[112]⟩
def hN : ByteArray := ⟨#[]⟩
def hA (x : S34) : S43 := ⟨3, hP, [⟨2, hN, x⟩]⟩
def hB (x : S34) : S43 := ⟨4, hP, [⟨2, hN, x⟩, ⟨9, hN, ⟨0, 0, hN, []⟩⟩]⟩
theorem eta34 (x : S34) : (⟨x.f0, x.f1, x.f2, x.f3⟩ : S34) = x := by cases x; rfl
theorem hN_nil : hN.toList = [] := by decide +kernel
theorem blank_z : rung_blank.f 0 0 hN [] = some true := by decide +kernel
theorem hP_name : lex_Name.f hP = some true := by decide +kernel
theorem holds_bits (x : S34) : bitsP [hA x, hB x] = [] := rfl
theorem cmp_ok {x : S34} (hm : MayP x) : StepOk [] 0 ⟨2, hN, x⟩ := by
  refine ⟨⟨by simp [namedP], .inr hN_nil, .inl rfl⟩, fun h => by simp [namedP] at h, fun _ => hm, by simp [namedP], by simp [namedP]⟩
theorem holds_ok {x : S34} (hm : MayP x) : RunOk [hA x, hB x] := by
  refine ⟨by simp, fun r hr => ?_⟩
  rw [holds_bits]
  have g1 : Good [] 0 [⟨2, hN, x⟩] := ⟨cmp_ok hm, by simp [Good, namedP]⟩
  have g2 : Good [] 0 [⟨2, hN, x⟩, ⟨9, hN, ⟨0, 0, hN, []⟩⟩] := by
    refine ⟨cmp_ok hm, ⟨⟨by simp [namedP], .inr hN_nil, .inr blank_z⟩, fun h => by simp [namedP] at h, fun h => absurd h (by decide), by simp [namedP], by simp [namedP]⟩, by simp [Good, namedP]⟩
  rcases List.mem_cons.mp hr with rfl | hr
  · exact ⟨by simp [hA], by simp [hA], hP_name, by simp [hA], g1⟩
  · rcases List.mem_cons.mp hr with rfl | hr
    · exact ⟨by simp [hB], by simp [hB], hP_name, by simp [hB], g2⟩
    · cases hr
theorem once_nil (a : ByteArray) : onceP [] a = [a] := by unfold onceP; rw [if_neg (by simp [ixF])]; rfl
theorem holds_run (x : S34) (en : List S69) : rungsP [] en [hA x, hB x] ([], [], []) = ([], if evP en x = true then [] else [hP], if evP en x = true then [hP] else []) := by
  have i1 : isP [] [] en (hA x) = evP en x := by
    unfold isP codeP hA
    simp only [List.foldl_cons, List.foldl_nil]
    unfold insP
    simp only [if_neg (show ¬ (2 : Int) = 0 by decide), if_neg (show ¬ (2 : Int) = 1 by decide), if_true]
    rfl
  have i2 : isP [] [] en (hB x) = !evP en x := by
    unfold isP codeP hB
    simp only [List.foldl_cons, List.foldl_nil]
    unfold insP
    simp only [if_neg (show ¬ (2 : Int) = 0 by decide), if_neg (show ¬ (2 : Int) = 1 by decide), if_true, if_neg (show ¬ (9 : Int) = 0 by decide), if_neg (show ¬ (9 : Int) = 1 by decide), if_neg (show ¬ (9 : Int) = 2 by decide), if_neg (show ¬ (9 : Int) = 3 by decide), if_neg (show ¬ (9 : Int) = 4 by decide), if_neg (show ¬ (9 : Int) = 5 by decide), if_neg (show ¬ (9 : Int) = 6 by decide)]
    rfl
  unfold rungsP
  simp only [List.foldl_cons, List.foldl_nil]
  have k3 : (hA x).f0 = 3 := rfl
  have k4 : (hB x).f0 = 4 := rfl
  have n3 : (hA x).f1 = hP := rfl
  have n4 : (hB x).f1 = hP := rfl
  cases hv : evP en x with
  | true =>
    have e1 : rungP [] en ([], [], []) (hA x) = ([], [], []) := by
      unfold rungP
      rw [k3, i1, hv]; rfl
    rw [e1]
    unfold rungP
    rw [k4, i2, hv, n4, once_nil]; rfl
  | false =>
    have e1 : rungP [] en ([], [], []) (hA x) = ([], [hP], []) := by
      unfold rungP
      rw [k3, i1, hv, n3, once_nil]; rfl
    rw [e1]
    unfold rungP
    rw [k4]
    have i3 : isP [] [] en (hB x) = true := by rw [i2, hv]; rfl
    simp only [i3]; rfl
theorem RungHolds_pure (x : S34) (l1 : List S69) (hI : OkI x) (hE : OkC l1) : ∃ k, malthouselaw09_RungHolds.f k x.f0 x.f1 x.f2 x.f3 l1 = some true := by
  suffices h : Tot (fun k => malthouselaw09_RungHolds.f k x.f0 x.f1 x.f2 x.f3 l1) true by
    obtain ⟨K, hK⟩ := h; exact ⟨K, hK K (Nat.le_refl _)⟩
  obtain ⟨b2, hb2, k2⟩ := cells_tot l1
  have J : Tot (fun k => malthouselaw09_RungHolds.j0 k l1 true true x.f0 x.f1 x.f2 x.f3) true := Tot.succ (by simp only [malthouselaw09_RungHolds.j0, if_true]; exact Tot.const _)
  unfold malthouselaw09_RungHolds.f
  refine Tot.bind awake_tot (Tot.bind hb2 ?_)
  simp only [if_true]
  cases b2 with
  | false => simp only [if_neg (show ¬ (false = true) by decide)]; exact J
  | true =>
  simp only [if_true]
  obtain ⟨t, ht, t0, tb, tk⟩ := Weight_tot hI 200 (by omega) (by omega)
  refine Tot.bind ht ?_
  by_cases ht0 : t = 0
  · simp only [if_pos ht0]; exact J
  simp only [if_neg ht0]
  have hx := tk ht0
  obtain ⟨m, hm, _⟩ := May_tot hx
  refine Tot.bind hm ?_
  cases m with
  | false => exact J
  | true =>
  have hmay : MayP x := hm
  refine Tot.succ ?_
  simp only [malthouselaw09_RungHolds.j0, Bool.not_true, if_neg (show ¬ (false = true) by decide)]
  obtain ⟨p, hp, ip⟩ := Eval_tot hx hE
  have hev := evP_eq hp
  have hO : ∀ r ∈ [hA x, hB x], OkR r := by
    have hz : OkE ⟨0, 0, hN, []⟩ := OkE.mk _ (by decide) (by decide) (by simp) (fun y hy => nomatch hy)
    intro r hr
    rcases List.mem_cons.mp hr with rfl | hr
    · exact ⟨show hP.size ≤ 200 by decide, by simp [hA], fun i hi => by simp [hA] at hi; rw [hi]; exact hx⟩
    · rcases List.mem_cons.mp hr with rfl | hr
      · refine ⟨show hP.size ≤ 200 by decide, by simp [hB], fun i hi => ?_⟩
        rcases List.mem_cons.mp hi with rfl | hi
        · exact hx
        · rcases List.mem_cons.mp hi with rfl | hi
          · exact hz
          · cases hi
      · cases hr
  rcases Run_tot (l := [hA x, hB x]) (bs := []) (en := l1) (by simp) hO (by simp) hE with ⟨i1, t1, n1⟩ | ⟨i1, _⟩
  · rw [holds_bits, holds_run] at t1
    have eA : (⟨3, (⟨#[112]⟩ : ByteArray), [⟨2, (⟨#[]⟩ : ByteArray), ⟨x.f0, x.f1, x.f2, x.f3⟩⟩]⟩ : S43) = hA x := by rw [eta34]; rfl
    have eB : (⟨4, (⟨#[112]⟩ : ByteArray), [⟨2, (⟨#[]⟩ : ByteArray), ⟨x.f0, x.f1, x.f2, x.f3⟩⟩, ⟨9, (⟨#[]⟩ : ByteArray), ⟨0, 0, (⟨#[]⟩ : ByteArray), []⟩⟩]⟩ : S43) = hB x := by rw [eta34]; rfl
    simp only [Option.bind_some]
    rw [eA, eB]
    refine Tot.bind hp ?_
    by_cases h0 : p.2 = 0
    · simp only [if_pos h0]
      refine Tot.bind t1 ?_
      by_cases h1 : p.1 = 0
      · have he : evP l1 x = false := by rw [hev, h0, h1]; rfl
        simp only [he, h1]
        exact ⟨0, fun k _ => by simp [show wrap64 1 = 1 by unfold wrap64; omega]⟩
      · have he : evP l1 x = true := by rw [hev, h0, beq_eq_false_iff_ne.mpr h1]; rfl
        have hne : (p.1 != 0) = true := bne_iff_ne.mpr h1
        simp only [he, hne]
        exact ⟨0, fun k _ => by simp [show wrap64 1 = 1 by unfold wrap64; omega]⟩
    · simp only [if_neg h0]
      refine Tot.bind t1 ?_
      have he : evP l1 x = false := by rw [hev, beq_eq_false_iff_ne.mpr h0]; rfl
      simp only [he]
      exact ⟨0, fun k _ => by simp [show wrap64 1 = 1 by unfold wrap64; omega]⟩
  · exact absurd ⟨rfl, holds_ok hmay⟩ i1
end Go.Proofs.YtiaccdaeomaogaaDoor.F
