/- Texts of one claim, slimmed and merged by slim.py. -/
import Derived.Test.YtiaccdaeomaogaaDoorB7
import Derived.Test.YtiaccdaeomaogaaDoorBRungRises1
namespace Go.Proofs.YtiaccdaeomaogaaDoor.F
open Go.RowKit Go.Proofs.YtiaccdaeomaogaaDoorW.PrintWords Go.Proofs.YtiaccdaeomaogaaDoorW.PrintLast Go.Proofs.YtiaccdaeomaogaaDoorW.PrintMore
set_option linter.unusedVariables false
set_option linter.unusedSimpArgs false
inductive LeB : List Bool → List Bool → Prop
  | nil : LeB [] []
  | cons {a b : Bool} {xs ys : List Bool} (h : a = true → b = true) (t : LeB xs ys) : LeB (a :: xs) (b :: ys)
theorem LeB.len {a b : List Bool} (h : LeB a b) : a.length = b.length := by
  induction h with
  | nil => rfl
  | cons _ _ ih => simp [ih]
theorem LeB.app {a b c d : List Bool} (h : LeB a b) (g : LeB c d) : LeB (a ++ c) (b ++ d) := by
  induction h with
  | nil => exact g
  | cons h _ ih => exact .cons h ih
theorem LeB.one {a b : Bool} (h : a = true → b = true) : LeB [a] [b] := .cons h .nil
theorem LeB.take {a b : List Bool} (h : LeB a b) : ∀ n, LeB (a.take n) (b.take n) := by
  induction h with
  | nil => intro n; simp; exact .nil
  | cons h _ ih =>
    intro n
    cases n with
    | zero => exact .nil
    | succ n => exact .cons h (ih n)
theorem LeB.set {a b : List Bool} (h : LeB a b) {x y : Bool} (hx : x = true → y = true) : ∀ n, LeB (a.set n x) (b.set n y) := by
  induction h with
  | nil => intro n; exact .nil
  | cons h t ih =>
    intro n
    cases n with
    | zero => exact .cons hx t
    | succ n => exact .cons h (ih n)
theorem LeB.get {a b : List Bool} (h : LeB a b) : ∀ n : Nat, a.getD n false = true → b.getD n false = true := by
  induction h with
  | nil => intro n h; simp at h
  | cons h t ih =>
    intro n
    cases n with
    | zero => exact h
    | succ n => exact ih n
theorem LeB.rd {a b : List Bool} (h : LeB a b) (i : Int) : rdOf false a i = true → rdOf false b i = true := h.get i.toNat
theorem and_mono {a b c d : Bool} (h : a = true → b = true) (g : c = true → d = true) : (a && c) = true → (b && d) = true := by
  cases a <;> cases c <;> simp_all
theorem or_mono {a b c d : Bool} (h : a = true → b = true) (g : c = true → d = true) : (a || c) = true → (b || d) = true := by
  cases a <;> cases c <;> simp_all
theorem ins_mono {nm : List ByteArray} {bs cs : List Bool} {en : List S69} {x : S40} {st su : List Bool} (hp : x.f0 ≠ 1 ∧ x.f0 ≠ 4 ∧ x.f0 ≠ 6 ∧ x.f0 ≠ 9) (hb : LeB bs cs) (hs : LeB st su) : LeB (insP nm bs en x st) (insP nm cs en x su) := by
  obtain ⟨h1, h4, h6, h9⟩ := hp
  unfold insP topP setP
  rw [hs.len]
  simp only [if_neg h1, if_neg h4, if_neg h6, if_neg h9]
  have rb := hb.rd (ixF nm x.f1 0)
  have t1 := hs.rd ((su.length : Int) - 1)
  have t2 := hs.rd ((su.length : Int) - 1 - 1)
  split
  · exact hs.app (.one rb)
  split
  · exact hs.app (.one (fun h => h))
  split
  · exact hs.set (and_mono t1 rb) _
  split
  · exact hs.set (or_mono t1 rb) _
  split
  · exact (hs.take _).app (.one (and_mono t2 t1))
  · exact (hs.take _).app (.one (or_mono t2 t1))
theorem code_mono {nm : List ByteArray} {bs cs : List Bool} {en : List S69} (hb : LeB bs cs) : ∀ (l : List S40) (st su : List Bool), (∀ x ∈ l, x.f0 ≠ 1 ∧ x.f0 ≠ 4 ∧ x.f0 ≠ 6 ∧ x.f0 ≠ 9) → LeB st su → LeB (codeP nm bs en l st) (codeP nm cs en l su)
  | [], st, su, _, hs => hs
  | x :: xs, st, su, hp, hs => code_mono hb xs _ _ (fun y hy => hp y (.tail _ hy)) (ins_mono (hp x (.head _)) hb hs)
def SubN (p h : List ByteArray) : Prop := ∀ x ∈ p, ∃ y ∈ h, x.toList = y.toList
theorem SubN.once {p h : List ByteArray} (g : SubN p h) (a : ByteArray) : SubN (onceP p a) (onceP h a) := by
  intro x hx
  have hx' : x ∈ p ∨ x = a := by
    unfold onceP at hx
    split at hx
    · exact .inl hx
    · rcases List.mem_append.mp hx with h | h
      · exact .inl h
      · exact .inr (by simpa using h)
  rcases hx' with h | rfl
  · obtain ⟨y, hy, e⟩ := g x h
    exact ⟨y, onceP_sub _ _ y hy, e⟩
  · exact onceP_mem _ _
theorem SubN.left {p h : List ByteArray} (g : SubN p h) (a : ByteArray) : SubN p (onceP h a) := fun x hx => by
  obtain ⟨y, hy, e⟩ := g x hx
  exact ⟨y, onceP_sub _ _ y hy, e⟩
def LeS (s t : List Bool × List ByteArray × List ByteArray) : Prop := LeB s.1 t.1 ∧ SubN t.2.1 s.2.1 ∧ SubN t.2.2 s.2.2
theorem rung_mono {nm : List ByteArray} {en : List S69} {s t : List Bool × List ByteArray × List ByteArray} {r : S43} (hp : PlainR r) (h : LeS s t) : LeS (rungP nm en s r) (rungP nm en t r) := by
  obtain ⟨hb, h1, h2⟩ := h
  have hi : isP nm s.1 en r = true → isP nm t.1 en r = true := (code_mono hb r.f2 [] [] hp.2 .nil).rd 0
  unfold rungP
  rw [if_neg hp.1, if_neg hp.1]
  by_cases o0 : r.f0 = 0
  · rw [if_pos o0, if_pos o0]
    exact ⟨hb.set hi _, h1, h2⟩
  rw [if_neg o0, if_neg o0]
  by_cases o1 : r.f0 = 1
  · rw [if_pos o1, if_pos o1]
    by_cases g : isP nm s.1 en r = true
    · rw [if_pos g, if_pos (hi g)]
      exact ⟨hb.set (fun h => h) _, h1, h2⟩
    · rw [if_neg g]
      by_cases g' : isP nm t.1 en r = true
      · rw [if_pos g']
        refine ⟨?_, h1, h2⟩
        have hset : ∀ (a b : List Bool) (n : Nat), LeB a b → LeB a (b.set n true) := by
          intro a b n hab
          induction hab generalizing n with
          | nil => exact .nil
          | cons h t ih =>
            cases n with
            | zero => exact .cons (fun _ => rfl) t
            | succ n => exact .cons h (ih n)
        exact hset _ _ _ hb
      · rw [if_neg g']; exact ⟨hb, h1, h2⟩
  rw [if_neg o1, if_neg o1]
  by_cases o3 : r.f0 = 3
  · rw [if_pos o3, if_pos o3]
    by_cases g : isP nm s.1 en r = true
    · rw [if_pos g, if_pos (hi g)]; exact ⟨hb, h1, h2⟩
    · rw [if_neg g]
      by_cases g' : isP nm t.1 en r = true
      · rw [if_pos g']; exact ⟨hb, h1.left _, h2⟩
      · rw [if_neg g']; exact ⟨hb, h1.once _, h2⟩
  · rw [if_neg o3, if_neg o3]
    by_cases g : isP nm s.1 en r = true
    · rw [if_pos g, if_pos (hi g)]; exact ⟨hb, h1, h2⟩
    · rw [if_neg g]
      by_cases g' : isP nm t.1 en r = true
      · rw [if_pos g']; exact ⟨hb, h1, h2.left _⟩
      · rw [if_neg g']; exact ⟨hb, h1, h2.once _⟩
theorem rungs_mono {nm : List ByteArray} {en : List S69} : ∀ (l : List S43) (s t : List Bool × List ByteArray × List ByteArray), (∀ r ∈ l, PlainR r) → LeS s t → LeS (rungsP nm en l s) (rungsP nm en l t)
  | [], s, t, _, h => h
  | r :: rs, s, t, hp, h => rungs_mono rs _ _ (fun q hq => hp q (.tail _ hq)) (rung_mono (hp r (.head _)) h)
theorem SubN_ix {p h : List ByteArray} (g : SubN p h) {x : ByteArray} (hx : x ∈ p) : 0 ≤ ixF h x 0 := ixF_nonneg.mpr (g x hx)
theorem rdB_mem {l : List ByteArray} {i : Nat} (h : i < l.length) : rdOf ByteArray.empty l (i : Int) ∈ l := by
  unfold rdOf; rw [Int.toNat_natCast, List.getD, List.getElem?_eq_getElem h]; exact List.getElem_mem h
theorem Rises_l3 (q bars : List ByteArray) (hb : bars.length < 9223372036854775807) (hq : q.length ≤ 9223372036854775807) (h : SubN q bars) : ∀ (m i : Nat), i + m = q.length → Tot (fun k => malthouselaw09_RungRises.l3 k bars q (i : Int)) true
  | 0, i, e => Tot.succ (by simp only [malthouselaw09_RungRises.l3, if_neg (show ¬ (i : Int) < (q.length : Int) by omega)]; exact Tot.const _)
  | m + 1, i, e => by
    refine Tot.succ ?_
    simp only [malthouselaw09_RungRises.l3, if_pos (show (i : Int) < (q.length : Int) by omega), if_pos (show 0 ≤ (i : Int) by omega), w1 (show 0 ≤ (i : Int) by omega) (show (i : Int) < 9223372036854775807 by omega)]
    refine Tot.bind (Place_tot bars _ hb) ?_
    simp only [if_neg (show ¬ ixF bars (rdOf ByteArray.empty q (i : Int)) 0 < 0 from Int.not_lt.mpr (SubN_ix h (rdB_mem (show i < q.length by omega))))]
    exact Rises_l3 q bars hb hq h m (i + 1) (by omega)
theorem Rises_l2 (p holds q bars : List ByteArray) (hh : holds.length < 9223372036854775807) (hp : p.length ≤ 9223372036854775807) (g : SubN p holds) (hb : bars.length < 9223372036854775807) (hq : q.length ≤ 9223372036854775807) (h : SubN q bars) : ∀ (m i : Nat), i + m = p.length → Tot (fun k => malthouselaw09_RungRises.l2 k holds bars p q (i : Int)) true
  | 0, i, e => Tot.succ (by simp only [malthouselaw09_RungRises.l2, if_neg (show ¬ (i : Int) < (p.length : Int) by omega)]; exact Rises_l3 q bars hb hq h q.length 0 (by omega))
  | m + 1, i, e => by
    refine Tot.succ ?_
    simp only [malthouselaw09_RungRises.l2, if_pos (show (i : Int) < (p.length : Int) by omega), if_pos (show 0 ≤ (i : Int) by omega), w1 (show 0 ≤ (i : Int) by omega) (show (i : Int) < 9223372036854775807 by omega)]
    refine Tot.bind (Place_tot holds _ hh) ?_
    simp only [if_neg (show ¬ ixF holds (rdOf ByteArray.empty p (i : Int)) 0 < 0 from Int.not_lt.mpr (SubN_ix g (rdB_mem (show i < p.length by omega))))]
    exact Rises_l2 p holds q bars hh hp g hb hq h m (i + 1) (by omega)
theorem Rises_l1 (b c : List Bool) (hlen : b.length ≤ 9223372036854775807) (hbc : LeB b c) (p holds q bars : List ByteArray) (hh : holds.length < 9223372036854775807) (hp : p.length ≤ 9223372036854775807) (g : SubN p holds) (hb : bars.length < 9223372036854775807) (hq : q.length ≤ 9223372036854775807) (h : SubN q bars) : ∀ (m i : Nat), i + m = b.length → Tot (fun k => malthouselaw09_RungRises.l1 k b holds bars c p q (i : Int)) true
  | 0, i, e => Tot.succ (by simp only [malthouselaw09_RungRises.l1, if_neg (show ¬ (i : Int) < (b.length : Int) by omega)]; exact Rises_l2 p holds q bars hh hp g hb hq h p.length 0 (by omega))
  | m + 1, i, e => by
    have ih := Rises_l1 b c hlen hbc p holds q bars hh hp g hb hq h m (i + 1) (by omega)
    have hl := hbc.len
    refine Tot.succ ?_
    simp only [malthouselaw09_RungRises.l1, if_pos (show (i : Int) < (b.length : Int) by omega), if_pos (show 0 ≤ (i : Int) by omega), w1 (show 0 ≤ (i : Int) by omega) (show (i : Int) < 9223372036854775807 by omega)]
    by_cases hi : rdOf false b (i : Int) = true
    · simp only [if_pos hi, if_pos (show (i : Int) < (c.length : Int) by omega), if_pos (hbc.rd _ hi)]
      exact ih
    · simp only [if_neg hi]
      exact ih
def highP (b c : List Bool) : Nat → List Bool
  | 0 => []
  | n + 1 => highP b c n ++ [rdOf false b (n : Int) || rdOf false c (n : Int)]
theorem highP_len (b c : List Bool) : ∀ n, (highP b c n).length = n
  | 0 => rfl
  | n + 1 => by simp [highP, highP_len b c n]
theorem highP_le (b c : List Bool) : ∀ n, n ≤ b.length → LeB (b.take n) (highP b c n)
  | 0, _ => by simp [highP]; exact .nil
  | n + 1, h => by
    unfold highP
    have e : b.take (n + 1) = b.take n ++ [rdOf false b (n : Int)] := by
      rw [List.take_add_one]
      unfold rdOf
      rw [Int.toNat_natCast, List.getD, List.getElem?_eq_getElem (show n < b.length by omega)]
      rfl
    rw [e]
    exact (highP_le b c n (by omega)).app (.one (fun h => by rw [h]; rfl))
theorem onceS_len (nm : List ByteArray) (en : List S69) : ∀ (l : List S43) (s : List Bool × List ByteArray × List ByteArray), (rungsP nm en l s).2.1.length ≤ s.2.1.length + l.length ∧ (rungsP nm en l s).2.2.length ≤ s.2.2.length + l.length
  | [], s => ⟨by simp [rungsP], by simp [rungsP]⟩
  | r :: rs, s => by
    have h := onceS_len nm en rs (rungP nm en s r)
    have g : (rungP nm en s r).2.1.length ≤ s.2.1.length + 1 ∧ (rungP nm en s r).2.2.length ≤ s.2.2.length + 1 := by
      have a1 := (onceP_len s.2.1 r.f1).1
      have a2 := (onceP_len s.2.2 r.f1).1
      unfold rungP
      repeat' split
      all_goals constructor <;> first | omega | exact a1 | exact a2 | exact Nat.le_succ _
    show (rungsP nm en rs (rungP nm en s r)).2.1.length ≤ _ ∧ (rungsP nm en rs (rungP nm en s r)).2.2.length ≤ _
    simp only [List.length_cons]
    omega
theorem RungRises_pure (l0 : List S43) (l1 l2 : List Bool) (l3 : List S69) (hl0 : l0.length ≤ 9223372036854775807) (hI : ∀ y ∈ l0, InR y) (hE : OkC l3) : ∃ k, malthouselaw09_RungRises.f k l0 l1 l2 l3 = some true := by
  suffices h : Tot (fun k => malthouselaw09_RungRises.f k l0 l1 l2 l3) true by
    obtain ⟨K, hK⟩ := h; exact ⟨K, hK K (Nat.le_refl _)⟩
  obtain ⟨b1, hb1, k1⟩ := Light_tot l0 hI
  obtain ⟨b2, hb2, k2⟩ := cells_tot l3
  obtain ⟨b3, hb3, k3⟩ := plain_tot l0 hl0 hI
  have J : Tot (fun k => malthouselaw09_RungRises.j0 k l0 l1 l2 l3 true true) true := Tot.succ (by simp only [malthouselaw09_RungRises.j0, if_true]; exact Tot.const _)
  unfold malthouselaw09_RungRises.f
  refine Tot.bind awake_tot (Tot.bind hb1 (Tot.bind hb2 (Tot.bind hb3 ?_)))
  simp only [if_true]
  cases b1 with
  | false => simp only [if_neg (show ¬ (false = true) by decide)]; exact J
  | true =>
  cases b2 with
  | false => simp only [if_neg (show ¬ (false = true) by decide), if_true]; exact J
  | true =>
  cases b3 with
  | false => simp only [if_neg (show ¬ (false = true) by decide), if_true]; exact J
  | true =>
  simp only [if_true]
  by_cases hc : (l1.length : Int) > 1000
  · simp only [if_pos hc]; exact J
  simp only [if_neg hc]
  by_cases hd : (l2.length : Int) < (l1.length : Int)
  · simp only [hd, decide_true]; exact J
  simp only [hd, decide_false]
  refine Tot.succ ?_
  simp only [malthouselaw09_RungRises.j0, if_neg (show ¬ (false = true) by decide)]
  have fin : Tot (fun k => ((rung_Run.f k l0 l1 l3).bind fun bt113 => ((rung_Run.f k l0 (highP l1 l2 l1.length) l3).bind fun bt122 => (if (bt113.1.length : Int) = (bt122.1.length : Int) then (malthouselaw09_RungRises.l1 k bt113.1 bt113.2.1 bt113.2.2 bt122.1 bt122.2.1 bt122.2.2 0) else (some false))))) true := by
    have hR := (k1 rfl).2
    have hll := (k1 rfl).1
    have hlow : LeB l1 (highP l1 l2 l1.length) := by have := highP_le l1 l2 l1.length (Nat.le_refl _); rwa [List.take_length] at this
    have hlh := highP_len l1 l2 l1.length
    rcases Run_tot (bs := l1) (en := l3) (by omega) hR (by omega) hE with ⟨i1, t1, n1⟩ | ⟨i1, t1⟩
    · rcases Run_tot (bs := highP l1 l2 l1.length) (en := l3) (show l0.length ≤ 1000 by omega) hR (by omega) hE with ⟨i2, t2, n2⟩ | ⟨i2, t2⟩
      · refine Tot.bind t1 (Tot.bind t2 ?_)
        obtain ⟨m1, m2, m3⟩ := rungs_mono (nm := bitsP l0) (en := l3) l0 (l1, [], []) (highP l1 l2 l1.length, [], []) (k3 rfl) ⟨hlow, (fun x hx => nomatch hx), (fun x hx => nomatch hx)⟩
        have o1 := onceS_len (bitsP l0) l3 l0 (l1, [], [])
        have o2 := onceS_len (bitsP l0) l3 l0 (highP l1 l2 l1.length, [], [])
        simp only [List.length_nil, Nat.zero_add] at o1 o2
        simp only [if_pos (show ((rungsP (bitsP l0) l3 l0 (l1, [], [])).1.length : Int) = ((rungsP (bitsP l0) l3 l0 (highP l1 l2 l1.length, [], [])).1.length : Int) by rw [m1.len])]
        exact Rises_l1 _ _ (by omega) m1 _ _ _ _ (by omega) (by omega) m2 (by omega) (by omega) m3 _ 0 (Nat.zero_add _)
      · exact absurd ⟨hlh.trans i1.1, i1.2⟩ i2
    · rcases Run_tot (bs := highP l1 l2 l1.length) (en := l3) (show l0.length ≤ 1000 by omega) hR (by omega) hE with ⟨i2, t2, n2⟩ | ⟨i2, t2⟩
      · exact absurd ⟨hlh.symm.trans i2.1, i2.2⟩ i1
      · refine Tot.bind t1 (Tot.bind t2 ?_)
        simp only [if_true]
        exact Rises_l1 [] [] (by simp) .nil [] [] [] [] (by simp) (by simp) (fun x hx => nomatch hx) (by simp) (by simp) (fun x hx => nomatch hx) 0 0 rfl
  have L : ∀ (m i : Nat), i + m = l1.length → Tot (fun k => malthouselaw09_RungRises.l0 k l0 l1 l2 l3 (highP l1 l2 i) (i : Int)) true := by
    intro m
    induction m with
    | zero =>
      intro i e
      refine Tot.succ ?_
      simp only [malthouselaw09_RungRises.l0, if_neg (show ¬ (i : Int) < (l1.length : Int) by omega)]
      obtain rfl : i = l1.length := by omega
      exact fin
    | succ m ih =>
      intro i e
      have ih := ih (i + 1) (by omega)
      refine Tot.succ ?_
      have hlen := highP_len l1 l2 i
      simp only [malthouselaw09_RungRises.l0, if_pos (show (i : Int) < (l1.length : Int) by omega), if_pos (show 0 ≤ (i : Int) by omega), w1 (show 0 ≤ (i : Int) by omega) (show (i : Int) < 9223372036854775807 by omega), if_pos (show (i : Int) < (l2.length : Int) by omega), if_pos (show (highP l1 l2 i).length < 140737488355328 by omega)]
      unfold highP at ih
      by_cases hb : rdOf false l1 (i : Int) = true
      · simp only [if_pos hb]
        rw [hb, Bool.true_or] at ih
        exact ih
      · simp only [if_neg hb]
        rw [Bool.eq_false_iff.mpr hb, Bool.false_or] at ih
        exact ih
  exact L l1.length 0 (by omega)
end Go.Proofs.YtiaccdaeomaogaaDoor.F
