/- Texts of one claim, slimmed and merged by slim.py. -/
import Derived.Test.YtiaccdaeomaogaaDoorB7
import Derived.Test.YtiaccdaeomaogaaDoorBRungBehind1
namespace Go.Proofs.YtiaccdaeomaogaaDoor.F
open Go.RowKit Go.Proofs.YtiaccdaeomaogaaDoorW.PrintWords Go.Proofs.YtiaccdaeomaogaaDoorW.PrintLast Go.Proofs.YtiaccdaeomaogaaDoorW.PrintMore
set_option linter.unusedVariables false
set_option linter.unusedSimpArgs false
theorem bits_behind (l : List S43) (x : S43) (hx : x.f0 = 3 ∨ x.f0 = 4) : bitsP (l ++ [x]) = bitsP l := by
  unfold bitsP
  rw [List.foldl_append]
  simp only [List.foldl_cons, List.foldl_nil]
  unfold bitsS
  rw [if_neg (by omega)]
theorem runOk_behind {l : List S43} {x : S43} (hx : x.f0 = 3 ∨ x.f0 = 4) (h : RunOk (l ++ [x])) : RunOk l := by
  obtain ⟨h1, h2⟩ := h
  rw [bits_behind l x hx] at h2
  refine ⟨by simp at h1; omega, fun r hr => h2 r (List.mem_append_left _ hr)⟩
theorem onceLen (nm : List ByteArray) (en : List S69) : ∀ (l : List S43) (s : List Bool × List ByteArray × List ByteArray), (rungsP nm en l s).2.1.length ≤ s.2.1.length + l.length ∧ (rungsP nm en l s).2.2.length ≤ s.2.2.length + l.length
  | [], s => ⟨by simp [rungsP], by simp [rungsP]⟩
  | r :: rs, s => by
    have h := onceLen nm en rs (rungP nm en s r)
    have g : (rungP nm en s r).2.1.length ≤ s.2.1.length + 1 ∧ (rungP nm en s r).2.2.length ≤ s.2.2.length + 1 := by
      have a1 := (onceP_len s.2.1 r.f1).1
      have a2 := (onceP_len s.2.2 r.f1).1
      unfold rungP
      repeat' split
      all_goals constructor <;> first | omega | exact a1 | exact a2 | exact Nat.le_succ _
    show (rungsP nm en rs (rungP nm en s r)).2.1.length ≤ _ ∧ (rungsP nm en rs (rungP nm en s r)).2.2.length ≤ _
    simp only [List.length_cons]
    omega
theorem rungs_behind (nm : List ByteArray) (en : List S69) (l : List S43) (x : S43) (s : List Bool × List ByteArray × List ByteArray) : rungsP nm en (l ++ [x]) s = rungP nm en (rungsP nm en l s) x := by
  unfold rungsP; rw [List.foldl_append]; rfl
theorem take_once (l : List ByteArray) (a : ByteArray) : (onceP l a).take l.length = l := by
  unfold onceP; split
  · exact List.take_length
  · simp
theorem rung_behind (nm : List ByteArray) (en : List S69) (s : List Bool × List ByteArray × List ByteArray) (x : S43) (hx : x.f0 = 3 ∨ x.f0 = 4) :
    (rungP nm en s x).1 = s.1 ∧ (rungP nm en s x).2.1.take s.2.1.length = s.2.1 ∧ (rungP nm en s x).2.2.take s.2.2.length = s.2.2 ∧ s.2.1.length ≤ (rungP nm en s x).2.1.length ∧ s.2.2.length ≤ (rungP nm en s x).2.2.length ∧ (rungP nm en s x).2.1.length + (rungP nm en s x).2.2.length ≤ s.2.1.length + s.2.2.length + 1 := by
  have a1 := onceP_len s.2.1 x.f1
  have a2 := onceP_len s.2.2 x.f1
  unfold rungP
  rw [if_neg (by omega), if_neg (by omega), if_neg (by omega)]
  split
  · split
    · exact ⟨rfl, List.take_length, List.take_length, Nat.le_refl _, Nat.le_refl _, by omega⟩
    · exact ⟨rfl, take_once _ _, List.take_length, a1.2, Nat.le_refl _, by simp only []; omega⟩
  · split
    · exact ⟨rfl, List.take_length, List.take_length, Nat.le_refl _, Nat.le_refl _, by omega⟩
    · exact ⟨rfl, List.take_length, take_once _ _, Nat.le_refl _, a2.2, by simp only []; omega⟩
theorem wr2 {a b : Nat} (ha : a ≤ 1000) (hb : b ≤ 1000) : wrap64 ((a : Int) + (b : Int)) = (a : Int) + (b : Int) := by unfold wrap64; omega
theorem wr3 {a b : Nat} (ha : a ≤ 1000) (hb : b ≤ 1000) : wrap64 ((a : Int) + (b : Int) + 1) = (a : Int) + (b : Int) + 1 := by unfold wrap64; omega
theorem wr0 : wrap64 0 = 0 := by unfold wrap64; omega
theorem RungBehind_pure (l0 : List S43) (x : S43) (l2 : List Bool) (l3 : List S69) (hz : l0.length * 48 ≤ 140737488351232) (hI : ∀ y ∈ l0, InR y) (hx : InR x) (hE : OkC l3) : ∃ k, malthouselaw09_RungBehind.f k l0 x.f0 x.f1 x.f2 l2 l3 = some true := by
  suffices h : Tot (fun k => malthouselaw09_RungBehind.f k l0 x.f0 x.f1 x.f2 l2 l3) true by
    obtain ⟨K, hK⟩ := h; exact ⟨K, hK K (Nat.le_refl _)⟩
  have ex : (⟨x.f0, x.f1, x.f2⟩ : S43) = x := rfl
  obtain ⟨b1, hb1, k1⟩ := Light_tot (l0 ++ [x]) (fun y hy => by
    rcases List.mem_append.mp hy with h | h
    · exact hI y h
    · rw [List.mem_singleton.mp h]; exact hx)
  obtain ⟨b2, hb2, k2⟩ := cells_tot l3
  have J : Tot (fun k => malthouselaw09_RungBehind.j0 k l0 l2 l3 true (l0 ++ [x]) true) true := Tot.succ (by simp only [malthouselaw09_RungBehind.j0, if_true]; exact Tot.const _)
  unfold malthouselaw09_RungBehind.f
  refine Tot.bind awake_tot ?_
  simp only [List.length_nil, Nat.zero_add, if_pos (show l0.length < 2932031007402 by omega), Option.bind_some, List.nil_append, List.length_singleton, if_pos (show l0.length + 1 < 2932031007402 by omega), ex]
  refine Tot.bind hb1 (Tot.bind hb2 ?_)
  simp only [if_true]
  cases b1 with
  | false => simp only [if_neg (show ¬ (false = true) by decide)]; exact J
  | true =>
  cases b2 with
  | false => simp only [if_neg (show ¬ (false = true) by decide), if_true]; exact J
  | true =>
  simp only [if_true]
  by_cases hc : (l2.length : Int) > 1000
  · simp only [if_pos hc]; exact J
  simp only [if_neg hc]
  by_cases hk : x.f0 = 3 ∨ x.f0 = 4
  case neg =>
    simp only [if_neg (show ¬ x.f0 = 3 from fun h => hk (.inl h)), show (x.f0 != 4) = true from bne_iff_ne.mpr (fun h => hk (.inr h))]; exact J
  have J0 : Tot (fun k => malthouselaw09_RungBehind.j0 k l0 l2 l3 true (l0 ++ [x]) false) true := by
    refine Tot.succ ?_
    simp only [malthouselaw09_RungBehind.j0, if_neg (show ¬ (false = true) by decide)]
    have hl := (k1 rfl).1
    have hR := (k1 rfl).2
    simp only [List.length_append, List.length_singleton] at hl
    have hR0 : ∀ r ∈ l0, OkR r := fun r hr => hR r (List.mem_append_left _ hr)
    have J1 : ∀ (b : List Bool) (h ba : List ByteArray) (c : List Bool) (p q : List ByteArray), Tot (fun k => malthouselaw09_RungBehind.j1 k b h ba c p q true) true := fun b h ba c p q => Tot.succ (by simp only [malthouselaw09_RungBehind.j1, if_true]; exact Tot.const _)
    rcases Run_tot (l := l0 ++ [x]) (bs := l2) (en := l3) (by simp; omega) hR (by omega) hE with ⟨i2, t2, n2⟩ | ⟨i2, t2⟩
    · have i1 : RunIn l0 l2 := ⟨by have := i2.1; rwa [bits_behind l0 x hk] at this, runOk_behind hk i2.2⟩
      rcases Run_tot (l := l0) (bs := l2) (en := l3) (by omega) hR0 (by omega) hE with ⟨_, t1, n1⟩ | ⟨h, _⟩
      · rw [bits_behind l0 x hk, rungs_behind] at t2
        refine Tot.bind t1 (Tot.bind t2 ?_)
        obtain ⟨g1, g2, g3, g4, g5, g6⟩ := rung_behind (bitsP l0) l3 (rungsP (bitsP l0) l3 l0 (l2, [], [])) x hk
        have o1 := onceLen (bitsP l0) l3 l0 (l2, [], [])
        simp only [List.length_nil, Nat.zero_add] at o1
        generalize rungsP (bitsP l0) l3 l0 (l2, [], []) = s at g1 g2 g3 g4 g5 g6 o1 n1 ⊢
        generalize rungP (bitsP l0) l3 s x = t at g1 g2 g3 g4 g5 g6 ⊢
        have J2 : Tot (fun k => malthouselaw09_RungBehind.j2 k s.1 s.2.1 s.2.2 t.1 t.2.1 t.2.2 false) true := by
          refine Tot.succ ?_
          simp only [malthouselaw09_RungBehind.j2, if_neg (show ¬ (false = true) by decide), g1]
          refine Tot.bind (Bools_same s.1 (by omega)) ?_
          simp only [if_pos (show 0 ≤ (s.2.1.length : Int) by omega), if_pos (show (s.2.1.length : Int) ≤ (t.2.1.length : Int) by omega), if_pos (show 0 ≤ (s.2.2.length : Int) by omega), if_pos (show (s.2.2.length : Int) ≤ (t.2.2.length : Int) by omega), Int.toNat_natCast, g2, g3, if_true]
          exact Tot.bind (Texts_same _ (by omega)) (Tot.bind (Texts_same _ (by omega)) (by simp only [if_true]; exact Tot.const _))
        have e1 : wrap64 ((t.2.1.length : Int) + (t.2.2.length : Int)) = (t.2.1.length : Int) + (t.2.2.length : Int) := wr2 (by omega) (by omega)
        have e2 : wrap64 (wrap64 ((s.2.1.length : Int) + (s.2.2.length : Int)) + 1) = (s.2.1.length : Int) + (s.2.2.length : Int) + 1 := by rw [wr2 (show s.2.1.length ≤ 1000 by omega) (show s.2.2.length ≤ 1000 by omega)]; exact wr3 (by omega) (by omega)
        have e3 : decide (wrap64 ((t.2.1.length : Int) + (t.2.2.length : Int)) > wrap64 (wrap64 ((s.2.1.length : Int) + (s.2.2.length : Int)) + 1)) = false := by
          rw [e1, e2]
          exact decide_eq_false (by omega)
        have J1f : Tot (fun k => malthouselaw09_RungBehind.j1 k s.1 s.2.1 s.2.2 t.1 t.2.1 t.2.2 false) true := by
          refine Tot.succ ?_
          simp only [malthouselaw09_RungBehind.j1, if_neg (show ¬ (false = true) by decide), if_neg (show ¬ (t.2.1.length : Int) < (s.2.1.length : Int) by omega), if_neg (show ¬ (t.2.2.length : Int) < (s.2.2.length : Int) by omega), e3]
          exact J2
        split
        · cases hd : (wrap64 ((t.2.1.length : Int) + (t.2.2.length : Int)) == 0) with
          | true => exact J1 _ _ _ _ _ _
          | false => exact J1f
        · exact J1f
      · exact absurd i1 h
    · have z : (wrap64 (0 + 0) == 0) = true := by simp [wr0]
      rcases Run_tot (l := l0) (bs := l2) (en := l3) (by omega) hR0 (by omega) hE with ⟨_, t1, n1⟩ | ⟨_, t1⟩
      · refine Tot.bind t1 (Tot.bind t2 ?_)
        simp only [List.length_nil, Int.natCast_zero, if_true, z]
        exact J1 _ _ _ _ _ _
      · refine Tot.bind t1 (Tot.bind t2 ?_)
        simp only [List.length_nil, Int.natCast_zero, if_true, z]
        exact J1 _ _ _ _ _ _
  by_cases h3 : x.f0 = 3
  · simp only [if_pos h3]; exact J0
  · simp only [if_neg h3, show (x.f0 != 4) = false from bne_eq_false_iff_eq.mpr (hk.resolve_left h3)]; exact J0
end Go.Proofs.YtiaccdaeomaogaaDoor.F
