/- Texts of one claim, slimmed and merged by slim.py. -/
import Derived.Test.YtiaccdaeomaogaaDoorT4
import Derived.Test.YtiaccdaeomaogaaDoorT17
import Derived.Test.YtiaccdaeomaogaaDoorT27
import Derived.Test.YtiaccdaeomaogaaDoorT28
import Derived.Test.YtiaccdaeomaogaaDoorT30
namespace Go.Proofs.YtiaccdaeomaogaaDoor.F
open Go.RowKit Go.Proofs.YtiaccdaeomaogaaDoorW.PrintWords Go.Proofs.YtiaccdaeomaogaaDoorW.PrintLast Go.Proofs.YtiaccdaeomaogaaDoorW.PrintMore
set_option linter.unusedVariables false
set_option linter.unusedSimpArgs false
open Classical in
noncomputable def rngP (n : Int) : Int × Int := if I64 n then (n, 0) else (0, 22)
theorem rngP_in {n : Int} (h : I64 n) : rngP n = (n, 0) := by unfold rngP; rw [if_pos h]
theorem rngP_out {n : Int} (h : ¬ I64 n) : rngP n = (0, 22) := by unfold rngP; rw [if_neg h]
theorem rngP_I64 (n : Int) : I64 (rngP n).1 := by
  by_cases h : I64 n
  · rw [rngP_in h]; exact h
  · rw [rngP_out h]; exact I64.zero
def okR (p : Int × Bool) : Int × Int := if p.2 = true then (p.1, 0) else (0, 22)
theorem plusA (a b : Int) (ha : I64 a) (hb : I64 b) : expr_plus.f a b = some (rngP (a + b)) := by
  unfold expr_plus.f
  by_cases h : I64 (a + b)
  · rw [rngP_in h]
    have w : wrap64 (a + b) = a + b := by unfold I64 at h; unfold wrap64; omega
    rw [w, if_neg]
    by_cases c : b < 0
    · rw [decide_eq_true c, decide_eq_true (show a + b < a by omega)]; decide
    · rw [decide_eq_false c, decide_eq_false (show ¬ a + b < a by omega)]; decide
  · rw [rngP_out h, if_pos]
    unfold I64 at *
    by_cases c : b < 0
    · rw [decide_eq_true c, decide_eq_false (show ¬ wrap64 (a + b) < a by unfold wrap64; omega)]; decide
    · rw [decide_eq_false c, decide_eq_true (show wrap64 (a + b) < a by unfold wrap64; omega)]; decide
theorem minusA (a b : Int) (ha : I64 a) (hb : I64 b) : expr_minus.f a b = some (rngP (a - b)) := by
  unfold expr_minus.f
  by_cases h : I64 (a - b)
  · rw [rngP_in h]
    have w : wrap64 (a - b) = a - b := by unfold I64 at h; unfold wrap64; omega
    rw [w, if_neg]
    by_cases c : b < 0
    · rw [decide_eq_true c, decide_eq_true (show a - b > a by omega)]; decide
    · rw [decide_eq_false c, decide_eq_false (show ¬ a - b > a by omega)]; decide
  · rw [rngP_out h, if_pos]
    unfold I64 at *
    by_cases c : b < 0
    · rw [decide_eq_true c, decide_eq_false (show ¬ wrap64 (a - b) > a by unfold wrap64; omega)]; decide
    · rw [decide_eq_false c, decide_eq_true (show wrap64 (a - b) > a by unfold wrap64; omega)]; decide
theorem addB (a b : Int) (ha : I64 a) (hb : I64 b) : (malthouseref02_Add.f a b).map okR = some (rngP (a + b)) := by
  unfold malthouseref02_Add.f
  by_cases h : I64 (a + b)
  · have w : wrap64 (a + b) = a + b := by unfold I64 at h; unfold wrap64; omega
    have e : ∀ o : Option (Int × Bool), o = some (a + b, true) → o.map okR = some (rngP (a + b)) := fun o ho => by rw [ho, rngP_in h]; rfl
    apply e
    unfold I64 at *
    by_cases c1 : b > 0
    · rw [if_pos c1, if_neg (show ¬ a > wrap64 (9223372036854775807 - b) by unfold wrap64; omega), if_neg (show ¬ b < 0 by omega), w]
    · rw [if_neg c1]
      by_cases c2 : b < 0
      · rw [if_pos c2, if_neg (show ¬ a < wrap64 ((-9223372036854775808) - b) by unfold wrap64; omega), w]
      · rw [if_neg c2, w]
  · have e : ∀ o : Option (Int × Bool), o = some (0, false) → o.map okR = some (rngP (a + b)) := fun o ho => by rw [ho, rngP_out h]; rfl
    apply e
    unfold I64 at *
    by_cases c1 : b > 0
    · rw [if_pos c1, if_pos (show a > wrap64 (9223372036854775807 - b) by unfold wrap64; omega)]
    · rw [if_neg c1, if_pos (show b < 0 by omega), if_pos (show a < wrap64 ((-9223372036854775808) - b) by unfold wrap64; omega)]
theorem subB (a b : Int) (ha : I64 a) (hb : I64 b) : (malthouseref02_Sub.f a b).map okR = some (rngP (a - b)) := by
  unfold malthouseref02_Sub.f
  by_cases h : I64 (a - b)
  · have w : wrap64 (a - b) = a - b := by unfold I64 at h; unfold wrap64; omega
    have e : ∀ o : Option (Int × Bool), o = some (a - b, true) → o.map okR = some (rngP (a - b)) := fun o ho => by rw [ho, rngP_in h]; rfl
    apply e
    unfold I64 at *
    by_cases c1 : b < 0
    · rw [if_pos c1, if_neg (show ¬ a > wrap64 (9223372036854775807 + b) by unfold wrap64; omega), if_neg (show ¬ b > 0 by omega), w]
    · rw [if_neg c1]
      by_cases c2 : b > 0
      · rw [if_pos c2, if_neg (show ¬ a < wrap64 ((-9223372036854775808) + b) by unfold wrap64; omega), w]
      · rw [if_neg c2, w]
  · have e : ∀ o : Option (Int × Bool), o = some (0, false) → o.map okR = some (rngP (a - b)) := fun o ho => by rw [ho, rngP_out h]; rfl
    apply e
    unfold I64 at *
    by_cases c1 : b < 0
    · rw [if_pos c1, if_pos (show a > wrap64 (9223372036854775807 + b) by unfold wrap64; omega)]
    · rw [if_neg c1, if_pos (show b > 0 by omega), if_pos (show a < wrap64 ((-9223372036854775808) + b) by unfold wrap64; omega)]
theorem wrap_mul (n : Int) : ∃ m : Int, wrap64 n = n + 18446744073709551616 * m ∧ I64 (wrap64 n) := ⟨(wrap64 n - n) / 18446744073709551616, by unfold wrap64; omega, I64.w n⟩
theorem mul_test (a b : Int) (ha : I64 a) (hb : I64 b) (h0 : b ≠ 0) (hs : ¬ (a = -1 ∧ b = -9223372036854775808 ∨ b = -1 ∧ a = -9223372036854775808)) : (wrap64 (Int.tdiv (wrap64 (a * b)) b) = a) ↔ I64 (a * b) := by
  constructor
  · intro h
    obtain ⟨m, hm, hi⟩ := wrap_mul (a * b)
    obtain ⟨c, hc⟩ : ∃ c, wrap64 (a * b) = c := ⟨_, rfl⟩
    rw [hc] at hm hi h
    by_cases hbig : I64 (Int.tdiv c b)
    · have w : wrap64 (Int.tdiv c b) = Int.tdiv c b := by unfold I64 at hbig; unfold wrap64; omega
      rw [w] at h
      have e := Int.mul_tdiv_add_tmod c b
      rw [h] at e
      have r : (Int.tmod c b).natAbs < b.natAbs := by
        rw [Int.natAbs_tmod]; exact Nat.mod_lt _ (by omega)
      have e2 : Int.tmod c b = 18446744073709551616 * m := by rw [Int.mul_comm b a] at e; omega
      unfold I64 at *
      rw [show a * b = c by omega]; exact hi
    · exfalso
      have hn := Int.natAbs_tdiv c b
      have hle : (Int.tdiv c b).natAbs ≤ c.natAbs := by rw [hn]; exact Nat.div_le_self _ _
      unfold I64 at hi hbig ha hb
      have hc8 : c = -9223372036854775808 := by omega
      subst hc8
      have hq : Int.tdiv (-9223372036854775808) b = 9223372036854775808 := by omega
      rw [hq] at h hn
      have hb1 : b.natAbs = 1 := by
        rcases Nat.lt_or_ge b.natAbs 2 with g | g
        · omega
        · have : (9223372036854775808 : Nat) / b.natAbs ≤ 9223372036854775808 / 2 := Nat.div_le_div_left g (by decide)
          have hn2 : (9223372036854775808 : Nat) = 9223372036854775808 / b.natAbs := hn
          have h3 : (9223372036854775808 : Nat) / 2 = 4611686018427387904 := by decide
          rw [← hn2, h3] at this; omega
      have hb2 : b = -1 := by
        rcases Int.natAbs_eq b with g | g
        · rw [hb1] at g; subst g; simp at hq
        · rw [hb1] at g; simpa using g
      subst hb2
      have : wrap64 9223372036854775808 = -9223372036854775808 := by unfold wrap64; omega
      rw [this] at h
      exact hs (.inr ⟨rfl, h.symm⟩)
  · intro h
    have w : wrap64 (a * b) = a * b := by unfold I64 at h; unfold wrap64; omega
    rw [w, Int.mul_tdiv_cancel a h0]
    unfold I64 at ha; unfold wrap64; omega
theorem mulB (a b : Int) (ha : I64 a) (hb : I64 b) : ∃ p, Tot (fun k => malthouseref02_Mul.f k a b) p ∧ okR p = rngP (a * b) := by
  by_cases h0 : a = 0 ∨ b = 0
  · refine ⟨(0, true), ?_, ?_⟩
    · have J : Tot (fun k => malthouseref02_Mul.j0 k a b true) (0, true) := Tot.succ (by simp only [malthouseref02_Mul.j0, if_true]; exact Tot.const _)
      unfold malthouseref02_Mul.f
      by_cases ha0 : a = 0
      · simp only [if_pos ha0]; exact J
      · simp only [if_neg ha0, show (b == 0) = true from beq_iff_eq.mpr (h0.resolve_left ha0)]; exact J
    · have : a * b = 0 := by rcases h0 with rfl | rfl <;> simp
      rw [this, rngP_in I64.zero]; rfl
  have ha0 : a ≠ 0 := fun e => h0 (.inl e)
  have hb0 : b ≠ 0 := fun e => h0 (.inr e)
  by_cases hs : a = -1 ∧ b = -9223372036854775808 ∨ b = -1 ∧ a = -9223372036854775808
  · refine ⟨(0, false), ?_, ?_⟩
    · have J : Tot (fun k => malthouseref02_Mul.j1 k a b true) (0, false) := Tot.succ (by simp only [malthouseref02_Mul.j1, if_true]; exact Tot.const _)
      unfold malthouseref02_Mul.f
      simp only [if_neg ha0, show (b == 0) = false from beq_eq_false_iff_ne.mpr hb0]
      refine Tot.succ ?_
      simp only [malthouseref02_Mul.j0, ff]
      rcases hs with ⟨h1, h2⟩ | ⟨h1, h2⟩
      · simp only [if_pos h1, if_pos h2]; exact J
      · simp only [if_neg (show ¬ a = -1 by omega), if_pos h1, show (a == (-9223372036854775808)) = true from beq_iff_eq.mpr h2]; exact J
    · have : ¬ I64 (a * b) := by
        rcases hs with ⟨rfl, rfl⟩ | ⟨rfl, rfl⟩ <;> decide
      rw [rngP_out this]; rfl
  have J : Tot (fun k => malthouseref02_Mul.j1 k a b false) (if wrap64 (Int.tdiv (wrap64 (a * b)) b) = a then (wrap64 (a * b), true) else (0, false)) := by
    refine Tot.succ ?_
    simp only [malthouseref02_Mul.j1, ff, if_neg hb0]
    by_cases c : wrap64 (Int.tdiv (wrap64 (a * b)) b) = a
    · simp only [if_pos c]; exact Tot.const _
    · simp only [if_neg c]; exact Tot.const _
  refine ⟨(if wrap64 (Int.tdiv (wrap64 (a * b)) b) = a then (wrap64 (a * b), true) else (0, false)), ?_, ?_⟩
  · unfold malthouseref02_Mul.f
    simp only [if_neg ha0, show (b == 0) = false from beq_eq_false_iff_ne.mpr hb0]
    refine Tot.succ ?_
    simp only [malthouseref02_Mul.j0, ff]
    by_cases h1 : a = -1
    · have h2 : ¬ b = -9223372036854775808 := fun e => hs (.inl ⟨h1, e⟩)
      simp only [if_pos h1, if_neg h2]
      by_cases h3 : b = -1
      · simp only [if_pos h3, show (a == (-9223372036854775808)) = false from beq_eq_false_iff_ne.mpr (by omega)]; exact J
      · simp only [if_neg h3]; exact J
    · by_cases h3 : b = -1
      · simp only [if_neg h1, if_pos h3, show (a == (-9223372036854775808)) = false from beq_eq_false_iff_ne.mpr (fun e => hs (.inr ⟨h3, e⟩))]; exact J
      · simp only [if_neg h1, if_neg h3]; exact J
  · have ht := mul_test a b ha hb hb0 hs
    by_cases h : I64 (a * b)
    · rw [if_pos (ht.mpr h), rngP_in h]
      have w : wrap64 (a * b) = a * b := by unfold I64 at h; unfold wrap64; omega
      rw [w]; rfl
    · rw [if_neg (fun c => h (ht.mp c)), rngP_out h]; rfl
theorem timesA (a b : Int) (ha : I64 a) (hb : I64 b) : expr_times.f a b = some (rngP (a * b)) := by
  unfold expr_times.f
  rw [if_pos ⟨ha, hb⟩]
  by_cases h : I64 (a * b)
  · rw [if_pos h, rngP_in h]
  · rw [if_neg h, rngP_out h]
def truP (b : Bool) : Int := if b = true then 1 else 0
theorem truA (b : Bool) : expr_truth.f b = some (truP b) := by cases b <;> rfl
theorem truB (b : Bool) : malthouseref02_truth.f b = some (truP b) := by cases b <;> rfl
theorem truP_I64 (b : Bool) : I64 (truP b) := by cases b <;> decide
noncomputable def twoP (op a b : Int) : Int × Int :=
  if op = 4 then rngP (a + b) else if op = 5 then rngP (a - b) else if op = 6 then rngP (a * b)
  else if op = 7 then (if b = 0 then (0, 23) else if b = -1 then rngP (0 - a) else (wrap64 (Int.tdiv a b), 0))
  else if op = 8 then (if b = 0 then (0, 23) else if b = -1 then (0, 0) else (Int.tmod a b, 0))
  else if op = 9 then (truP (decide (a < b)), 0) else if op = 10 then (truP (decide (a ≤ b)), 0) else if op = 11 then (truP (decide (a > b)), 0) else if op = 12 then (truP (decide (a ≥ b)), 0)
  else if op = 13 then (truP (a == b), 0) else if op = 14 then (truP (a != b), 0)
  else if op = 15 then (truP (if a = 0 then false else (b != 0)), 0) else (truP (if a = 0 then (b != 0) else true), 0)
theorem iteI {c : Prop} [Decidable c] {p q : Int × Int} (h : I64 p.1) (g : I64 q.1) : I64 (if c then p else q).1 := by
  by_cases hc : c
  · rw [if_pos hc]; exact h
  · rw [if_neg hc]; exact g
theorem twoP_I64 (op a b : Int) (ha : I64 a) : I64 (twoP op a b).1 := by
  unfold twoP
  repeat' (first | exact rngP_I64 _ | exact truP_I64 _ | exact I64.w _ | exact tmod_I64 b ha | exact I64.zero | apply iteI)
theorem twoA (op a b : Int) (ha : I64 a) (hb : I64 b) (hop : 4 ≤ op ∧ op ≤ 16) : Tot (fun k => expr_two.f k op a b) (twoP op a b) := by
  have D : ∀ v, (op = 7 ∨ op = 8) → v = twoP op a b → Tot (fun k => expr_divide.f k op a b) v := fun v h hv => by
    unfold twoP at hv
    rw [if_neg (show ¬ op = 4 by omega), if_neg (show ¬ op = 5 by omega), if_neg (show ¬ op = 6 by omega)] at hv
    unfold expr_divide.f
    by_cases h0 : b = 0
    · rw [if_pos h0, if_pos h0] at hv
      have : v = (0, 23) := by rcases h with h | h <;> simp [h] at hv <;> exact hv
      rw [this]; simp only [if_pos h0]; exact Tot.const _
    rw [if_neg h0, if_neg h0] at hv
    by_cases h8 : op = 8
    · rw [if_neg (show ¬ op = 7 by omega), if_pos h8] at hv
      by_cases h1 : b = -1
      · rw [if_pos h1] at hv
        rw [hv]; simp only [if_neg h0, if_pos h8, show (b == (-1)) = true from beq_iff_eq.mpr h1]
        exact Tot.succ (by simp only [expr_divide.j0, if_true]; exact Tot.const _)
      · rw [if_neg h1] at hv
        rw [hv]; simp only [if_neg h0, if_pos h8, show (b == (-1)) = false from beq_eq_false_iff_ne.mpr h1]
        exact Tot.succ (by simp only [expr_divide.j0, ff, if_pos h8, if_neg h0]; exact Tot.const _)
    · rw [if_pos (show op = 7 by omega)] at hv
      simp only [if_neg h0, if_neg h8]
      refine Tot.succ ?_
      by_cases h1 : b = -1
      · rw [if_pos h1] at hv
        rw [hv]; simp only [expr_divide.j0, ff, if_neg h8, if_pos h1, minusA 0 a I64.zero ha, Option.bind_some]; exact Tot.const _
      · rw [if_neg h1] at hv
        rw [hv]; simp only [expr_divide.j0, ff, if_neg h8, if_neg h1, if_neg h0]; exact Tot.const _
  unfold expr_two.f
  by_cases o4 : op = 4
  · unfold twoP; simp only [if_pos o4, plusA a b ha hb, Option.bind_some]; exact Tot.const _
  by_cases o5 : op = 5
  · unfold twoP; simp only [if_neg o4, if_pos o5, minusA a b ha hb, Option.bind_some]; exact Tot.const _
  by_cases o6 : op = 6
  · unfold twoP; simp only [if_neg o4, if_neg o5, if_pos o6, timesA a b ha hb, Option.bind_some]; exact Tot.const _
  simp only [if_neg o4, if_neg o5, if_neg o6]
  by_cases o7 : op = 7
  · simp only [if_pos o7, show (op == 7) = true from beq_iff_eq.mpr o7]
    refine Tot.succ ?_
    simp only [expr_two.j0, if_true]
    exact Tot.bind (D _ (.inl o7) rfl) (Tot.const _)
  simp only [if_neg o7]
  by_cases o8 : op = 8
  · simp only [show (op == 8) = true from beq_iff_eq.mpr o8]
    refine Tot.succ ?_
    simp only [expr_two.j0, if_true]
    exact Tot.bind (D _ (.inr o8) rfl) (Tot.const _)
  simp only [show (op == 8) = false from beq_eq_false_iff_ne.mpr o8]
  refine Tot.succ ?_
  unfold twoP
  simp only [expr_two.j0, ff, if_neg o4, if_neg o5, if_neg o6, if_neg o7, if_neg o8, truA, Option.bind_some]
  by_cases o9 : op = 9
  · simp only [if_pos o9]; exact Tot.const _
  by_cases o10 : op = 10
  · simp only [if_neg o9, if_pos o10]; exact Tot.const _
  by_cases o11 : op = 11
  · simp only [if_neg o9, if_neg o10, if_pos o11]; exact Tot.const _
  by_cases o12 : op = 12
  · simp only [if_neg o9, if_neg o10, if_neg o11, if_pos o12]; exact Tot.const _
  by_cases o13 : op = 13
  · simp only [if_neg o9, if_neg o10, if_neg o11, if_neg o12, if_pos o13]; exact Tot.const _
  by_cases o14 : op = 14
  · simp only [if_neg o9, if_neg o10, if_neg o11, if_neg o12, if_neg o13, if_pos o14]; exact Tot.const _
  simp only [if_neg o9, if_neg o10, if_neg o11, if_neg o12, if_neg o13, if_neg o14]
  by_cases o15 : op = 15
  · by_cases hz : a = 0
    · simp only [if_pos o15, if_pos hz]; exact Tot.const _
    · simp only [if_pos o15, if_neg hz]; exact Tot.const _
  · by_cases hz : a = 0
    · simp only [if_neg o15, if_pos hz]; exact Tot.const _
    · simp only [if_neg o15, if_neg hz]; exact Tot.const _
theorem okM {o : Option (Int × Bool)} {v : Int × Int} (h : o.map okR = some v) : (o.bind fun bt => if bt.2 = true then some (bt.1, (0 : Int)) else some (0, 22)) = some v := by
  cases o with
  | none => cases h
  | some p =>
    have h2 : okR p = v := Option.some.inj h
    rw [← h2]
    show (if p.2 = true then some (p.1, (0 : Int)) else some (0, 22)) = some (okR p)
    unfold okR
    by_cases c : p.2 = true
    · rw [if_pos c, if_pos c]
    · rw [if_neg c, if_neg c]
theorem twoB (op a b : Int) (ha : I64 a) (hb : I64 b) (hop : 4 ≤ op ∧ op ≤ 16) : Tot (fun k => malthouseref02_Two.f k op a b) (twoP op a b) := by
  unfold malthouseref02_Two.f
  by_cases o4 : op = 4
  · unfold twoP; simp only [if_pos o4, okM (addB a b ha hb)]; exact Tot.const _
  by_cases o5 : op = 5
  · unfold twoP; simp only [if_neg o4, if_pos o5, okM (subB a b ha hb)]; exact Tot.const _
  by_cases o6 : op = 6
  · obtain ⟨p, hp, ep⟩ := mulB a b ha hb
    unfold twoP; simp only [if_neg o4, if_neg o5, if_pos o6, ← ep]
    refine Tot.bind hp ?_
    unfold okR
    by_cases c : p.2 = true
    · simp only [if_pos c]; exact Tot.const _
    · simp only [if_neg c]; exact Tot.const _
  simp only [if_neg o4, if_neg o5, if_neg o6]
  have S : ∃ q, malthouseref02_Sub.f 0 a = some q ∧ okR q = rngP (0 - a) := by
    have := subB 0 a I64.zero ha
    cases h : malthouseref02_Sub.f 0 a with
    | none => rw [h] at this; cases this
    | some q => rw [h] at this; exact ⟨q, rfl, Option.some.inj this⟩
  obtain ⟨q, hq, eq⟩ := S
  have D : (op = 7 ∨ op = 8) → Tot (fun k => malthouseref02_Two.j0 k op a b 0 true op true) (twoP op a b) := fun h => by
    refine Tot.succ ?_
    unfold twoP
    simp only [malthouseref02_Two.j0, if_true, if_neg (show ¬ op = 4 by omega), if_neg (show ¬ op = 5 by omega), if_neg (show ¬ op = 6 by omega)]
    by_cases h0 : b = 0
    · by_cases h7 : op = 7
      · simp only [if_pos h0, if_pos h7]; exact Tot.const _
      · simp only [if_pos h0, if_neg h7, if_pos (show op = 8 by omega)]; exact Tot.const _
    by_cases h1 : b = -1
    · simp only [if_neg h0, if_pos h1, hq, Option.bind_some]
      by_cases h7 : op = 7
      · simp only [if_pos h7, if_neg (show ¬ op = 8 by omega), ← eq]
        unfold okR
        by_cases c : q.2 = true
        · simp only [if_pos c]; exact Tot.const _
        · simp only [if_neg c]; exact Tot.const _
      · simp only [if_neg h7, if_pos (show op = 8 by omega)]; exact Tot.const _
    · by_cases h7 : op = 7
      · simp only [if_neg h0, if_neg h1, if_pos h7]; exact Tot.const _
      · simp only [if_neg h0, if_neg h1, if_neg h7, if_pos (show op = 8 by omega)]; exact Tot.const _
  by_cases o7 : op = 7
  · simp only [if_pos o7, show (op == 7) = true from beq_iff_eq.mpr o7]; exact D (.inl o7)
  simp only [if_neg o7]
  by_cases o8 : op = 8
  · simp only [show (op == 8) = true from beq_iff_eq.mpr o8]; exact D (.inr o8)
  simp only [show (op == 8) = false from beq_eq_false_iff_ne.mpr o8]
  refine Tot.succ ?_
  unfold twoP
  simp only [malthouseref02_Two.j0, ff, if_neg o4, if_neg o5, if_neg o6, if_neg o7, if_neg o8, truB, Option.bind_some, if_true]
  by_cases o9 : op = 9
  · simp only [if_pos o9]; exact Tot.const _
  by_cases o10 : op = 10
  · simp only [if_neg o9, if_pos o10]; exact Tot.const _
  by_cases o11 : op = 11
  · simp only [if_neg o9, if_neg o10, if_pos o11]; exact Tot.const _
  by_cases o12 : op = 12
  · simp only [if_neg o9, if_neg o10, if_neg o11, if_pos o12]; exact Tot.const _
  by_cases o13 : op = 13
  · simp only [if_neg o9, if_neg o10, if_neg o11, if_neg o12, if_pos o13]; exact Tot.const _
  by_cases o14 : op = 14
  · simp only [if_neg o9, if_neg o10, if_neg o11, if_neg o12, if_neg o13, if_pos o14]; exact Tot.const _
  simp only [if_neg o9, if_neg o10, if_neg o11, if_neg o12, if_neg o13, if_neg o14]
  by_cases o15 : op = 15
  · by_cases hz : a = 0
    · simp only [if_pos o15, if_pos hz]; exact Tot.const _
    · simp only [if_pos o15, if_neg hz]; exact Tot.const _
  · have o16 : op = 16 := by omega
    by_cases hz : a = 0
    · simp only [if_neg o15, if_pos o16, if_pos hz]; exact Tot.const _
    · simp only [if_neg o15, if_pos o16, if_neg hz]; exact Tot.const _
noncomputable def cellP (en : List S69) (nm : ByteArray) : Int × Bool := if idxC nm en < 0 then (0, false) else ((rd_T69 en (idxC nm en)).f1, true)
theorem cellA (en : List S69) (nm : ByteArray) : expr_cell.f en nm = some (cellP en nm) := rfl
theorem Cell_l0 (en : List S69) (nm : ByteArray) (hl : en.length < 9223372036854775807) : ∀ (n i : Nat), i + n = en.length → (∀ j : Int, 0 ≤ j → j < (i : Int) → cellB nm (rd_T69 en j) = false) → Tot (fun k => malthouseref02_Cell.l0 k en nm (i : Int)) (cellP en nm)
  | 0, i, e, hn => by
    have : idxC nm en = -1 := idxC_none (fun j h1 h2 => hn j h1 (by omega))
    refine Tot.succ ?_
    unfold cellP
    simp only [malthouseref02_Cell.l0, if_neg (show ¬ (i : Int) < (en.length : Int) by omega), this, if_pos (show (-1 : Int) < 0 by decide)]; exact Tot.const _
  | n + 1, i, e, hn => by
    by_cases h : (rd_T69 en (i : Int)).f0.toList = nm.toList
    · have hx : idxC nm en = (i : Int) := idxC_at (by omega) (by omega) (beq_iff_eq.mpr h) hn
      refine Tot.succ ?_
      unfold cellP
      simp only [malthouseref02_Cell.l0, if_pos (show (i : Int) < (en.length : Int) by omega), if_pos (show 0 ≤ (i : Int) by omega), if_pos h, hx, if_neg (show ¬ (i : Int) < 0 by omega)]; exact Tot.const _
    · refine Tot.succ ?_
      simp only [malthouseref02_Cell.l0, if_pos (show (i : Int) < (en.length : Int) by omega), if_pos (show 0 ≤ (i : Int) by omega), if_neg h, w1 (show 0 ≤ (i : Int) by omega) (show (i : Int) < 9223372036854775807 by omega)]
      refine Cell_l0 en nm hl n (i + 1) (by omega) (fun j h1 h2 => ?_)
      by_cases hj : j = (i : Int)
      · subst hj; exact beq_eq_false_iff_ne.mpr h
      · exact hn j h1 (by omega)
theorem Cell_tot (en : List S69) (nm : ByteArray) (hl : en.length < 9223372036854775807) : Tot (fun k => malthouseref02_Cell.f k en nm) (cellP en nm) := Cell_l0 en nm hl en.length 0 (by omega) (fun j h1 h2 => by omega)
theorem reck_both {x : S34} (h : WfE x) (ho : OkE x) {en : List S69} (he : OkC en) (hl : en.length < 9223372036854775807) : ∃ p, Tot (fun k => expr_reckon.f k x.f0 x.f1 x.f2 x.f3 en) p ∧ Tot (fun k => malthouseref02_reckon.f k x.f0 x.f1 x.f2 x.f3 en) p ∧ I64 p.1 := by
  induction h with
  | num x h hk =>
    refine ⟨(x.f1, 0), Tot.succ ?_, Tot.succ ?_, by cases ho with | mk _ h1 _ _ _ => exact h1⟩
    · simp only [expr_reckon.f, if_pos h]; exact Tot.const _
    · simp only [malthouseref02_reckon.f, if_pos h]; exact Tot.const _
  | name x h hk hn =>
    have hc := Cell_tot en x.f2 hl
    have hi : I64 (cellP en x.f2).1 := by
      unfold cellP; split
      · exact I64.zero
      · exact he.rd _
    refine ⟨if (cellP en x.f2).2 = true then ((cellP en x.f2).1, 0) else (0, 21), Tot.succ ?_, Tot.succ ?_, by split; exact hi; exact I64.zero⟩
    · simp only [expr_reckon.f, if_neg (show ¬ x.f0 = 0 by omega), if_pos h, cellA, Option.bind_some]
      by_cases c : (cellP en x.f2).2 = true
      · simp only [if_pos c]; exact Tot.const _
      · simp only [if_neg c]; exact Tot.const _
    · simp only [malthouseref02_reckon.f, if_neg (show ¬ x.f0 = 0 by omega), if_pos h]
      refine Tot.bind hc ?_
      by_cases c : (cellP en x.f2).2 = true
      · simp only [if_pos c]; exact Tot.const _
      · simp only [if_neg c]; exact Tot.const _
  | one x a h hk ha ih =>
    have hoa : OkE a := by cases ho with | mk _ _ _ _ h4 => exact h4 a (by rw [hk]; simp)
    obtain ⟨p, p1, p2, pi⟩ := ih hoa
    have r0 : rd_T34 [a] 0 = a := rfl
    have L2 : Tot (fun k => malthouseref02_reckon.l0 k en [p.1] 1 x.f0 x.f1 x.f2 x.f3) (if x.f0 = 2 then rngP (0 - p.1) else (truP (p.1 == 0), 0)) := by
      refine Tot.succ ?_
      simp only [malthouseref02_reckon.l0, hk, List.length_singleton, if_neg (show ¬ (1 : Int) < ((1 : Nat) : Int) by decide)]
      have e0 : rd [p.1] 0 = p.1 := rfl
      by_cases h2 : x.f0 = 2
      · simp only [if_pos h2, if_pos (show (0 : Int) < ((1 : Nat) : Int) by decide), e0]
        have t := twoB 5 0 p.1 I64.zero pi (by omega)
        have e5 : twoP 5 0 p.1 = rngP (0 - p.1) := by unfold twoP; rw [if_neg (by decide), if_pos rfl]
        rw [e5] at t
        exact Tot.bind t (Tot.const _)
      · simp only [if_neg h2, if_pos (show x.f0 = 3 by omega), if_pos (show (0 : Int) < ((1 : Nat) : Int) by decide), e0, truB, Option.bind_some]; exact Tot.const _
    refine ⟨if p.2 = 0 then (if x.f0 = 2 then rngP (0 - p.1) else (truP (p.1 == 0), 0)) else (0, p.2), Tot.succ ?_, Tot.succ ?_, ?_⟩
    · simp only [expr_reckon.f, if_neg (show ¬ x.f0 = 0 by omega), if_neg (show ¬ x.f0 = 1 by omega), hk, List.length_singleton, if_pos (show (0 : Int) < ((1 : Nat) : Int) by decide), r0]
      refine Tot.bind p1 ?_
      by_cases c : p.2 = 0
      · by_cases h2 : x.f0 = 2
        · simp only [if_pos c, if_pos h2, minusA 0 p.1 I64.zero pi, Option.bind_some]; exact Tot.const _
        · simp only [if_pos c, if_neg h2, if_pos (show x.f0 = 3 by omega), truA, Option.bind_some]; exact Tot.const _
      · simp only [if_neg c]; exact Tot.const _
    · simp only [malthouseref02_reckon.f, if_neg (show ¬ x.f0 = 0 by omega), if_neg (show ¬ x.f0 = 1 by omega)]
      refine Tot.succ ?_
      rw [hk] at L2 ⊢
      simp only [malthouseref02_reckon.l0, List.length_singleton, if_pos (show (0 : Int) < ((1 : Nat) : Int) by decide), if_pos (show (0 : Int) ≤ 0 by decide), r0, List.length_nil, if_pos (show (0 : Nat) < 17592186044416 by decide), show wrap64 (0 + 1) = 1 by unfold wrap64; omega, List.nil_append]
      refine Tot.bind p2 ?_
      by_cases c : p.2 = 0
      · simp only [if_pos c]; exact L2
      · simp only [if_neg c]; exact Tot.const _
    · split
      · split
        · exact rngP_I64 _
        · exact truP_I64 _
      · exact I64.zero
  | two x a b h hk ha hb iha ihb =>
    have hoa : OkE a := by cases ho with | mk _ _ _ _ h4 => exact h4 a (by rw [hk]; simp)
    have hob : OkE b := by cases ho with | mk _ _ _ _ h4 => exact h4 b (by rw [hk]; simp)
    obtain ⟨p, p1, p2, pi⟩ := iha hoa
    obtain ⟨q, q1, q2, qi⟩ := ihb hob
    have r0 : rd_T34 [a, b] 0 = a := rfl
    have r1 : rd_T34 [a, b] 1 = b := rfl
    have L2 : Tot (fun k => malthouseref02_reckon.l0 k en [p.1, q.1] 2 x.f0 x.f1 x.f2 x.f3) (twoP x.f0 p.1 q.1) := by
      refine Tot.succ ?_
      have e0 : rd [p.1, q.1] 0 = p.1 := rfl
      have e1 : rd [p.1, q.1] 1 = q.1 := rfl
      simp only [malthouseref02_reckon.l0, hk, List.length_cons, List.length_nil, if_neg (show ¬ (2 : Int) < ((0 + 1 + 1 : Nat) : Int) by decide), if_neg (show ¬ x.f0 = 2 by omega), if_neg (show ¬ x.f0 = 3 by omega), if_pos (show (0 : Int) < ((0 + 1 + 1 : Nat) : Int) by decide), if_pos (show (1 : Int) < ((0 + 1 + 1 : Nat) : Int) by decide), e0, e1]
      exact Tot.bind (twoB x.f0 p.1 q.1 pi qi h) (Tot.const _)
    have L1 : Tot (fun k => malthouseref02_reckon.l0 k en [p.1] 1 x.f0 x.f1 x.f2 x.f3) (if q.2 = 0 then twoP x.f0 p.1 q.1 else (0, q.2)) := by
      refine Tot.succ ?_
      rw [hk] at L2 ⊢
      simp only [malthouseref02_reckon.l0, List.length_cons, List.length_nil, if_pos (show (1 : Int) < ((0 + 1 + 1 : Nat) : Int) by decide), if_pos (show (0 : Int) ≤ 1 by decide), r1, if_pos (show (0 + 1 : Nat) < 17592186044416 by decide), show wrap64 (1 + 1) = 2 by unfold wrap64; omega, List.cons_append, List.nil_append]
      refine Tot.bind q2 ?_
      by_cases c : q.2 = 0
      · simp only [if_pos c]; exact L2
      · simp only [if_neg c]; exact Tot.const _
    refine ⟨if p.2 = 0 then (if q.2 = 0 then twoP x.f0 p.1 q.1 else (0, q.2)) else (0, p.2), Tot.succ ?_, Tot.succ ?_, ?_⟩
    · simp only [expr_reckon.f, if_neg (show ¬ x.f0 = 0 by omega), if_neg (show ¬ x.f0 = 1 by omega), hk, List.length_cons, List.length_nil, if_pos (show (0 : Int) < ((0 + 1 + 1 : Nat) : Int) by decide), if_pos (show (1 : Int) < ((0 + 1 + 1 : Nat) : Int) by decide), r0, r1]
      refine Tot.bind p1 ?_
      by_cases c : p.2 = 0
      · simp only [if_pos c, if_neg (show ¬ x.f0 = 2 by omega), if_neg (show ¬ x.f0 = 3 by omega)]
        refine Tot.bind q1 ?_
        by_cases d : q.2 = 0
        · simp only [if_pos d]; exact Tot.bind (twoA x.f0 p.1 q.1 pi qi h) (Tot.const _)
        · simp only [if_neg d]; exact Tot.const _
      · simp only [if_neg c]; exact Tot.const _
    · simp only [malthouseref02_reckon.f, if_neg (show ¬ x.f0 = 0 by omega), if_neg (show ¬ x.f0 = 1 by omega)]
      refine Tot.succ ?_
      rw [hk] at L1 ⊢
      simp only [malthouseref02_reckon.l0, List.length_cons, List.length_nil, if_pos (show (0 : Int) < ((0 + 1 + 1 : Nat) : Int) by decide), if_pos (show (0 : Int) ≤ 0 by decide), r0, if_pos (show (0 : Nat) < 17592186044416 by decide), show wrap64 (0 + 1) = 1 by unfold wrap64; omega, List.nil_append]
      refine Tot.bind p2 ?_
      by_cases c : p.2 = 0
      · simp only [if_pos c]; exact L1
      · simp only [if_neg c]; exact Tot.const _
    · split
      · split
        · exact twoP_I64 _ _ _ pi
        · exact I64.zero
      · exact I64.zero
theorem eval_both {x : S34} (ho : OkE x) {en : List S69} (he : OkC en) (hl : en.length < 9223372036854775807) : ∃ p, Tot (fun k => expr_Eval.f k x.f0 x.f1 x.f2 x.f3 en) p ∧ Tot (fun k => malthouseref02_Eval.f k x.f0 x.f1 x.f2 x.f3 en) p ∧ I64 p.1 := by
  obtain ⟨m1, m2, m3⟩ := may_both ho
  cases hm : mayP x with
  | true =>
    rw [hm] at m1 m2
    obtain ⟨p, p1, p2, pi⟩ := reck_both (m3 hm).1 ho he hl
    exact ⟨p, Tot.bind m1 (by simp only [if_true]; exact Tot.bind p1 (Tot.const _)), Tot.bind m2 (by simp only [if_true]; exact Tot.bind p2 (Tot.const _)), pi⟩
  | false =>
    rw [hm] at m1 m2
    exact ⟨(0, 1), Tot.bind m1 (by simp only [ff]; exact Tot.const _), Tot.bind m2 (by simp only [ff]; exact Tot.const _), I64.zero⟩
end Go.Proofs.YtiaccdaeomaogaaDoor.F
namespace Go.Proofs.YtiaccdaeomaogaaDoor.F
open Go.RowKit Go.Proofs.YtiaccdaeomaogaaDoorW.PrintWords Go.Proofs.YtiaccdaeomaogaaDoorW.PrintLast Go.Proofs.YtiaccdaeomaogaaDoorW.PrintMore
attribute [local go_sem] max2_int min2_int max_two min_two max_three min_three max_four min_four   -- for this text's walks alone
set_option linter.unusedVariables false
set_option linter.unusedSimpArgs false
def malthouseref11_Right.j0 : Nat → List (S67) → Bool → Int → Int → Option (Bool)
  | 0, _, _, _, _ => none
  | k + 1, x0, x19, x102000, x102001 => if x19 = true then (some false) else (if x102001 = 0 then (some true) else (if x102000 < (x0.length : Int) then (if 0 ≤ x102000 then (some (((rd_T67 x0 x102000).f0) == 2)) else (none)) else (some false)))
def malthouseref11_Right.f (k : Nat) (l0 : List (S67)) (a1_0 : Int) (a1_1 : Int) : Option (Bool) := if a1_0 < 0 then (malthouseref11_Right.j0 k l0 true a1_0 a1_1) else (if a1_0 > (l0.length : Int) then (malthouseref11_Right.j0 k l0 true a1_0 a1_1) else (malthouseref11_Right.j0 k l0 (decide (a1_1 < 0)) a1_0 a1_1))
set_option maxHeartbeats 8000000 in
set_option maxRecDepth 100000 in
theorem malthouseref11_Right.calls (k : Nat) (A0 : Option Addr) (c0 : Nat) (l0 : List (S67)) (a1_0 : Int) (a1_1 : Int) (r : Bool) (w : World) (hr0 : Kd.C k67 w A0 l0.length l0) (hc0 : l0.length ≤ c0) (h : malthouseref11_Right.f k l0 a1_0 a1_1 = some r) :
    Calls Tryd.prog 42 #[.slice A0 l0.length c0, .agg #[.int .i64 a1_0, .int .i64 a1_1]] w fun e w' => e = .returned (.bool r) ∧ Below w.heap.size w w' := by
  have hu57 := Tryd.underlying57
  have HR0 := Aside0.mk hr0
  have HC0 := Aside0.mk hc0
  clear hr0 hc0
  have HB := Aside0.mk (Below.refl w.heap.size w)
  have H : (if a1_0 < 0 then (malthouseref11_Right.j0 k l0 true a1_0 a1_1) else (if a1_0 > (l0.length : Int) then (malthouseref11_Right.j0 k l0 true a1_0 a1_1) else (malthouseref11_Right.j0 k l0 (decide (a1_1 < 0)) a1_0 a1_1))) = some r := h
  clear h
  have HC3 := Aside0.mk H
  clear H
  go_enter Tryd.func42, Tryd.ntmps42
  go_upto_region 1 with (first | ((with_reducible refine gate_dst (N := 3) rfl ?_); (try (refine gate_guard (by rfl) ?_; dsimp only)); refine box_event ?hg (N := 3) ?hd (cs := #[.int .i64 a1_0, .int .i64 a1_1]) (t := 57) ?hr ?_; (case hd => rfl); (case hg => rfl); (case hr => first | (go_simp; done) | (go_simp; rfl)); intro gb101 hg w4 hbox hb; have n0_ := qs hb; have n1_ := Aside0.mk (hbox); have n2_ := Aside0.mk ((by rw [hg]; exact (below_size qb) : w.heap.size ≤ gb101)); have n3_ := Aside0.mk ((by rw [hg]; exact (below_size qb) : w.heap.size ≤ gb101)); clear HB; have HB := n0_; have BK101 := n1_; have GW101 := n2_; have GE101 := n3_; clear n0_ n1_ n2_ n3_; clear hb hbox hg))
  (try simp only [Act.put, List.setIfInBounds_toArray, List.set_cons_zero, List.set_cons_succ])
  go_cut [19] (fun v19 wc => ∃ (kq : Nat) (x19_2 : Bool), v19 = .bool x19_2 ∧ Aside0 (malthouseref11_Right.j0 kq l0 x19_2 a1_0 a1_1 = some r) ∧ Aside0 (kq ≤ k) ∧ Aside0 (wc.heap[gb101]? = some (.cells #[.int .i64 a1_0, .int .i64 a1_1] 57 (0, 0))) ∧ Aside0 (Below w.heap.size w wc))
  case first =>
    have H := HC3.out
    clear HC3
    by_cases c5 : a1_0 < 0
    · rw [if_pos c5] at H
      have c5b0 : decide (a1_0 < 0) = true := decide_eq_true c5
      clear c5
      (first | rw [c5b0] | (simp only [i64_w, i32_w]; rw [c5b0]) | skip)
      have H' := Aside0.mk H
      clear H
      obtain ⟨_, _, _, _⟩ := q2 BK101.out
      go_wp2
      go_meet
      case rel => exact ⟨_, (true), qv, H', ql, qk101, qB⟩
    rw [if_neg c5] at H
    have c5b0 : decide (a1_0 < 0) = false := decide_eq_false c5
    clear c5
    (first | rw [c5b0] | (simp only [i64_w, i32_w]; rw [c5b0]) | skip)
    by_cases c7 : a1_0 > (l0.length : Int)
    · rw [if_pos c7] at H
      have c7b0 : decide ((l0.length : Int) < a1_0) = true := decide_eq_true c7
      clear c7
      have H' := Aside0.mk H
      clear H
      obtain ⟨_, _, _, _⟩ := q2 BK101.out
      go_wp2
      go_meet
      case rel => exact ⟨_, (true), qv, H', ql, qk101, qB⟩
    rw [if_neg c7] at H
    have c7b0 : decide ((l0.length : Int) < a1_0) = false := decide_eq_false c7
    clear c7
    have H' := Aside0.mk H
    clear H
    obtain ⟨_, _, _, _⟩ := q2 BK101.out
    go_wp2
    go_meet
    case rel => exact ⟨_, (decide (a1_1 < 0)), qv, H', ql, qk101, qB⟩
  clear HC3
  obtain ⟨kq, x19_2, rfl, HA, HJ2, BK101, HB⟩ := hcut
  cases kq with
  | zero => exact absurd HA.out (by simp [malthouseref11_Right.j0])
  | succ kj2 =>
    have H := HA.out
    clear HA
    simp only [malthouseref11_Right.j0] at H
    by_cases c10 : x19_2 = true
    · subst c10
      rw [if_pos rfl] at H
      obtain rfl := Option.some.inj H
      go_wp2
      go_ret
      exact qr
    replace c10 := Bool.eq_false_iff.mpr c10
    subst c10
    rw [if_neg qf] at H
    by_cases c11 : a1_1 = 0
    · rw [if_pos c11] at H
      obtain ⟨c11b0, c11b1⟩ := qe c11
      clear c11
      obtain rfl := Option.some.inj H
      obtain ⟨_, _, _, _⟩ := q2 BK101.out
      go_wp2
      go_ret
      exact qr
    rw [if_neg c11] at H
    obtain ⟨c11b0, c11b1⟩ := qd c11
    by_cases c13 : a1_0 < (l0.length : Int)
    · rw [if_pos c13] at H
      have c13b0 : decide (a1_0 < (l0.length : Int)) = true := decide_eq_true c13
      clear c13
      by_cases c14 : 0 ≤ a1_0
      · rw [if_pos c14] at H
        have c14b0 : decide (0 ≤ a1_0) = true := decide_eq_true c14
        clear c14
        obtain rfl := Option.some.inj H
        obtain ⟨_, _, _, _⟩ := q2 BK101.out
        have p102 : 0 ≤ (a1_0 : Int) := qa
        have q102 : a1_0 < (l0.length : Int) := qa
        obtain ⟨ad102, A102_6, c102_6, e102, hx102_0, hx102_1, hx102_2, hx102_3, hx102_4, hx102_5, hx102_6, hx102_7, hl102_6, hi102_6⟩ := at_T67 HR0.out a1_0 p102 q102
        cases e102
        replace hx102_0 := qc HB.out hx102_0
        replace hx102_1 := qc HB.out hx102_1
        replace hx102_2 := qc HB.out hx102_2
        replace hx102_3 := qc HB.out hx102_3
        replace hx102_4 := qc HB.out hx102_4
        replace hx102_5 := qc HB.out hx102_5
        replace hx102_6 := qc HB.out hx102_6
        replace hx102_7 := qc HB.out hx102_7
        have HR102_6 := Aside0.mk hi102_6
        have HC102_6 := Aside0.mk hl102_6
        clear hi102_6 hl102_6
        replace p102 := eq_true p102
        replace q102 := eq_true q102
        go_wp2
        go_ret
        exact qr
      rw [if_neg c14] at H
      exact absurd H (by simp)
    rw [if_neg c13] at H
    have c13b0 : decide (a1_0 < (l0.length : Int)) = false := decide_eq_false c13
    clear c13
    obtain rfl := Option.some.inj H
    obtain ⟨_, _, _, _⟩ := q2 BK101.out
    go_wp2
    go_ret
    exact qr
end Go.Proofs.YtiaccdaeomaogaaDoor.F
namespace Go.Proofs.YtiaccdaeomaogaaDoor.F
open Go.RowKit Go.Proofs.YtiaccdaeomaogaaDoorW.PrintWords Go.Proofs.YtiaccdaeomaogaaDoorW.PrintLast Go.Proofs.YtiaccdaeomaogaaDoorW.PrintMore
attribute [local go_sem] max2_int min2_int max_two min_two max_three min_three max_four min_four   -- for this text's walks alone
set_option linter.unusedVariables false
set_option linter.unusedSimpArgs false
attribute [local go_sem high] eqA72
def malthouseref11_Same.l0 : Nat → List (S72) → List (S72) → Int → Option (Bool)
  | 0, _, _, _ => none
  | k + 1, x0, x1, x5 => if x5 < (x0.length : Int) then (if 0 ≤ x5 then (if x5 < (x1.length : Int) then (if (!(((rd_T72 x0 x5).f0) == ((rd_T72 x1 x5).f0)) || (!((((rd_T72 x0 x5).f1).toList) == (((rd_T72 x1 x5).f1).toList)) || (!((((rd_T72 x0 x5).f2).toList) == (((rd_T72 x1 x5).f2).toList)) || (!(((rd_T72 x0 x5).f3) == ((rd_T72 x1 x5).f3)))))) = true then (some false) else (malthouseref11_Same.l0 k x0 x1 (wrap64 (x5 + 1)))) else (none)) else (none)) else (some true)
def malthouseref11_Same.f (k : Nat) (l0 : List (S72)) (l1 : List (S72)) : Option (Bool) := if (l0.length : Int) = (l1.length : Int) then (malthouseref11_Same.l0 k l0 l1 0) else (some false)
set_option maxHeartbeats 8000000 in
set_option maxRecDepth 100000 in
theorem malthouseref11_Same.calls (k : Nat) (A0 : Option Addr) (c0 : Nat) (l0 : List (S72)) (A1 : Option Addr) (c1 : Nat) (l1 : List (S72)) (r : Bool) (w : World) (hr0 : Kd.C k72 w A0 l0.length l0) (hc0 : l0.length ≤ c0) (hr1 : Kd.C k72 w A1 l1.length l1) (hc1 : l1.length ≤ c1) (h : malthouseref11_Same.f k l0 l1 = some r) :
  Calls Tryd.prog 40 #[.slice A0 l0.length c0, .slice A1 l1.length c1] w fun e w' => e = .returned (.bool r) ∧ Drawn0 w w' := by
 have hu72 := Tryd.underlying72
 have HR0 := Aside0.mk hr0
 have HC0 := Aside0.mk hc0
 clear hr0 hc0
 have HR1 := Aside0.mk hr1
 have HC1 := Aside0.mk hc1
 clear hr1 hc1
 have H : (if (l0.length : Int) = (l1.length : Int) then (malthouseref11_Same.l0 k l0 l1 0) else (some false)) = some r := h
 clear h
 by_cases c3 : (l0.length : Int) = (l1.length : Int)
 ·rw [if_pos c3] at H
  obtain ⟨c3b0, c3b1⟩ := qe c3
  have c3b2 : (l0.length == l1.length) = true := by first | simpa using c3 | (simp at c3 ⊢; omega)
  clear c3
  have H' := Aside0.mk H
  clear H
  go_enter Tryd.func40, Tryd.ntmps40
  go_wp2
  repeat (go_quiet (fail); try go_wp2)
  go_loopg [5] k (fun kq v5 w' => ∃ (x5_1 : Int), v5 = .int .i64 x5_1 ∧ Aside0 (malthouseref11_Same.l0 kq l0 l1 x5_1 = some r) ∧ Aside0 (kq ≤ k) ∧ Drawn0 w w')
  case atStart => exact ⟨(0), qv, H', ⟨Nat.le_refl _⟩, by repeat (first | exact Drawn0.refl _ | apply Drawn0.step)⟩
  case round =>
   clear H'
   obtain ⟨x5_1, rfl, HA, HK1, ⟨m1, rfl⟩⟩ := hrel
   cases gk with
   | zero => exact absurd HA.out (by simp [malthouseref11_Same.l0])
   | succ k1 =>
    have H := HA.out
    clear HA
    simp only [malthouseref11_Same.l0] at H
    by_cases c4 : x5_1 < (l0.length : Int)
    ·rw [if_pos c4] at H
     have c4b0 : decide (x5_1 < (l0.length : Int)) = true := decide_eq_true c4
     clear c4
     by_cases c5 : 0 ≤ x5_1
     ·rw [if_pos c5] at H
      have c5b0 : decide (0 ≤ x5_1) = true := decide_eq_true c5
      clear c5
      by_cases c6 : x5_1 < (l1.length : Int)
      ·rw [if_pos c6] at H
       have c6b0 : decide (x5_1 < (l1.length : Int)) = true := decide_eq_true c6
       clear c6
       by_cases c7 : (!(((rd_T72 l0 x5_1).f0) == ((rd_T72 l1 x5_1).f0)) || (!((((rd_T72 l0 x5_1).f1).toList) == (((rd_T72 l1 x5_1).f1).toList)) || (!((((rd_T72 l0 x5_1).f2).toList) == (((rd_T72 l1 x5_1).f2).toList)) || (!(((rd_T72 l0 x5_1).f3) == ((rd_T72 l1 x5_1).f3)))))) = true
       ·rw [if_pos c7] at H
        have c7b0 : (!(((rd_T72 l0 x5_1).f0) == ((rd_T72 l1 x5_1).f0)) || (!((((rd_T72 l0 x5_1).f1).toList) == (((rd_T72 l1 x5_1).f1).toList)) || (!((((rd_T72 l0 x5_1).f2).toList) == (((rd_T72 l1 x5_1).f2).toList)) || (!(((rd_T72 l0 x5_1).f3) == ((rd_T72 l1 x5_1).f3)))))) = true := c7
        clear c7
        obtain rfl := Option.some.inj H
        have p101 : 0 ≤ (x5_1 : Int) := qa
        have q101 : x5_1 < (l0.length : Int) := qa
        obtain ⟨ad101, e101, hx101_0, hx101_1, hx101_2, hx101_3⟩ := at_T72 HR0.out x5_1 p101 q101
        cases e101
        replace p101 := eq_true p101
        replace q101 := eq_true q101
        have p102 : 0 ≤ (x5_1 : Int) := qa
        have q102 : x5_1 < (l1.length : Int) := qa
        obtain ⟨ad102, e102, hx102_0, hx102_1, hx102_2, hx102_3⟩ := at_T72 HR1.out x5_1 p102 q102
        cases e102
        replace p102 := eq_true p102
        replace q102 := eq_true q102
        go_wp2
        repeat (go_quiet (fail); try go_wp2)
        go_ret
        exact ⟨by first | rfl | (simp; done) | (simp [*]; done), by repeat (first | exact Drawn0.refl _ | apply Drawn0.step)⟩
       rw [if_neg c7] at H
       have c7b0 : (!(((rd_T72 l0 x5_1).f0) == ((rd_T72 l1 x5_1).f0)) || (!((((rd_T72 l0 x5_1).f1).toList) == (((rd_T72 l1 x5_1).f1).toList)) || (!((((rd_T72 l0 x5_1).f2).toList) == (((rd_T72 l1 x5_1).f2).toList)) || (!(((rd_T72 l0 x5_1).f3) == ((rd_T72 l1 x5_1).f3)))))) = false := by simpa using c7
       clear c7
       have H' := Aside0.mk H
       clear H
       have p101 : 0 ≤ (x5_1 : Int) := qa
       have q101 : x5_1 < (l0.length : Int) := qa
       obtain ⟨ad101, e101, hx101_0, hx101_1, hx101_2, hx101_3⟩ := at_T72 HR0.out x5_1 p101 q101
       cases e101
       replace p101 := eq_true p101
       replace q101 := eq_true q101
       have p102 : 0 ≤ (x5_1 : Int) := qa
       have q102 : x5_1 < (l1.length : Int) := qa
       obtain ⟨ad102, e102, hx102_0, hx102_1, hx102_2, hx102_3⟩ := at_T72 HR1.out x5_1 p102 q102
       cases e102
       replace p102 := eq_true p102
       replace q102 := eq_true q102
       go_wp2
       repeat (go_quiet (fail); try go_wp2)
       go_roundg k1
       case measure => have := HK1.out; omega
       case rel => exact ⟨(wrap64 (x5_1 + 1)), qv, H', ⟨by have := HK1.out; omega⟩, by repeat (first | exact Drawn0.refl _ | apply Drawn0.step)⟩
      rw [if_neg c6] at H
      exact absurd H (by simp)
     rw [if_neg c5] at H
     exact absurd H (by simp)
    rw [if_neg c4] at H
    have c4b0 : decide (x5_1 < (l0.length : Int)) = false := decide_eq_false c4
    clear c4
    obtain rfl := Option.some.inj H
    go_wp2
    repeat (go_quiet (fail); try go_wp2)
    go_ret
    exact ⟨by first | rfl | (simp; done) | (simp [*]; done), by repeat (first | exact Drawn0.refl _ | apply Drawn0.step)⟩
 rw [if_neg c3] at H
 obtain ⟨c3b0, c3b1⟩ := qd c3
 have c3b2 : (l0.length == l1.length) = false := by first | simpa using c3 | (simp at c3 ⊢; omega)
 obtain rfl := Option.some.inj H
 go_enter Tryd.func40, Tryd.ntmps40
 go_wp2
 repeat (go_quiet (fail); try go_wp2)
 go_ret
 exact ⟨by first | rfl | (simp; done) | (simp [*]; done), by repeat (first | exact Drawn0.refl _ | apply Drawn0.step)⟩
end Go.Proofs.YtiaccdaeomaogaaDoor.F
