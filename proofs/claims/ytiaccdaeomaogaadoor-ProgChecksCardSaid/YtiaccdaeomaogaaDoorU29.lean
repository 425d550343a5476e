/- Texts of one claim, slimmed and merged by slim.py. -/
import Derived.Test.YtiaccdaeomaogaaDoorU4
import Derived.Test.YtiaccdaeomaogaaDoorU26
import Derived.Test.YtiaccdaeomaogaaDoorU27
import Derived.Test.YtiaccdaeomaogaaDoorU28
namespace Go.Proofs.YtiaccdaeomaogaaDoor.F
open Go.RowKit Go.Proofs.YtiaccdaeomaogaaDoorW.PrintWords Go.Proofs.YtiaccdaeomaogaaDoorW.PrintLast Go.Proofs.YtiaccdaeomaogaaDoorW.PrintMore
attribute [local go_sem] max2_int min2_int max_two min_two max_three min_three max_four min_four   -- for this text's walks alone
set_option linter.unusedVariables false
set_option linter.unusedSimpArgs false
def malthouseref02_Names.f (k : Nat) (a0_0 : Int) (a0_1 : Int) (a0_2 : ByteArray) (l0_3 : List (S34)) : Option (List ByteArray) := (malthouseref02_May.f k a0_0 a0_1 a0_2 l0_3).bind fun t102 => (if t102 = true then ((malthouseref02_names.f k a0_0 a0_1 a0_2 l0_3 ([] : List ByteArray)).bind fun t103 => (some t103)) else (some ([] : List ByteArray)))
set_option maxHeartbeats 8000000 in
set_option maxRecDepth 100000 in
theorem malthouseref02_Names.calls (k : Nat) (a0_0 : Int) (a0_1 : Int) (a0_2 : ByteArray) (A0_3 : Option Addr) (c0_3 : Nat) (l0_3 : List (S34)) (r : List ByteArray) (w : World) (hr0_3 : Kd.C k34 w A0_3 l0_3.length l0_3) (hc0_3 : l0_3.length ≤ c0_3) (h : malthouseref02_Names.f k a0_0 a0_1 a0_2 l0_3 = some r) :
  Calls Tryd.prog 77 #[.agg #[.int .i64 a0_0, .int .i64 a0_1, .string a0_2, .slice A0_3 l0_3.length c0_3]] w fun e w' => ∃ v0_ : Value, e = .returned (v0_) ∧ Kd.V Kd.string 9 w' w.heap.size (fun k_ => (w.heap.size ≤ k_)) v0_ r ∧ Below w.heap.size w w' := by
 have hu34 := Tryd.underlying34
 have HR0_3 := Aside0.mk hr0_3
 have HC0_3 := Aside0.mk hc0_3
 clear hr0_3 hc0_3
 have HB := Aside0.mk (Below.refl w.heap.size w)
 have H : ((malthouseref02_May.f k a0_0 a0_1 a0_2 l0_3).bind fun t102 => (if t102 = true then ((malthouseref02_names.f k a0_0 a0_1 a0_2 l0_3 ([] : List ByteArray)).bind fun t103 => (some t103)) else (some ([] : List ByteArray)))) = some r := h
 clear h
 replace H := qi H
 obtain ⟨t102, A2, H⟩ := H
 by_cases c3 : t102 = true
 ·subst c3
  rw [if_pos rfl] at H
  replace H := qi H
  obtain ⟨t103, A4, H⟩ := H
  obtain rfl := Option.some.inj H
  go_enter Tryd.func77, Tryd.ntmps77
  go_wp2_with (first | ((with_reducible refine gate_dst (N := 1) rfl ?_); refine box_event ?hg (N := 1) ?hd (cs := #[.int .i64 a0_0, .int .i64 a0_1, .string a0_2, .slice A0_3 l0_3.length c0_3]) (t := 34) ?hr ?_; (case hd => rfl); (case hg => rfl); (case hr => first | (go_simp; done) | (go_simp; rfl)); intro gb101 hg w5 hbox hb; have n0_ := qs hb; have n1_ := Aside0.mk (hbox); have n2_ := Aside0.mk ((by rw [hg]; exact (below_size qb) : w.heap.size ≤ gb101)); have n3_ := Aside0.mk ((by rw [hg]; exact (below_size qb) : w.heap.size ≤ gb101)); clear HB; have HB := n0_; have BK101 := n1_; have GW101 := n2_; have GE101 := n3_; clear n0_ n1_ n2_ n3_; clear hb hbox hg; obtain ⟨_, _, _, _, _, _, _, _⟩ := q4 BK101.out) | ((with_reducible refine gate_callee (f := 76) rfl ?_); refine goesL_ (some 5) rfl rfl Tryd.func76 (by kernel_rfl) rfl #[.agg #[.int .i64 a0_0, .int .i64 a0_1, .string a0_2, .slice A0_3 l0_3.length c0_3]] rfl qm ?_; (with_reducible refine (malthouseref02_May.calls k a0_0 a0_1 a0_2 _ _ l0_3 true _ ?side1 ?side2 A2.out).mono ?_); (case side1 => exact qC HR0_3.out); (case side2 => exact HC0_3.out); rintro e w7 ⟨rfl, hb⟩; refine ⟨_, rfl, ?_⟩; have n0_ := qn101 (g := gb101) hb; have n1_ := qs hb; clear BK101; clear HB; have BK101 := n0_; have HB := n1_; clear n0_ n1_; (try clear hb); obtain ⟨_, _, _, _, _, _, _, _⟩ := q4 BK101.out) | ((with_reducible refine gate_callee (f := 109) rfl ?_); refine goesL_ (some 9) rfl rfl Tryd.func109 (by kernel_rfl) rfl #[.agg #[.int .i64 a0_0, .int .i64 a0_1, .string a0_2, .slice A0_3 l0_3.length c0_3], .slice none 0 0] rfl qm ?_; (refine (malthouseref02_names.calls k a0_0 a0_1 a0_2 _ _ l0_3 (fun k_ => False) _ _ ([] : List ByteArray) t103 _ ?side1 ?side2 ?side3 A4.out).mono ?_); (case side1 => exact qC HR0_3.out); (case side2 => exact HC0_3.out); (case side3 => exact Kd.V_nil _ _ _ _ _); rintro e w9 ⟨v104, rfl, ho0, hb⟩; refine ⟨_, rfl, ?_⟩; have n0_ := Aside0.mk (Kd.V_lower (Kd.V_mono (ok' := fun k_ => (w.heap.size ≤ k_) ∧ k_ ≠ gb101) ho0 (fun k_ hk_ => ⟨Or.elim hk_ (fun hs_ => (hs_).elim) (fun hn_ => (Nat.le_trans (below_size qb) hn_)), Or.elim hk_ (fun hs_ => (hs_).elim) (fun hn_ => (Kd.freshB (g := gb101) (o := .cells #[.int .i64 a0_0, .int .i64 a0_1, .string a0_2, .slice A0_3 l0_3.length c0_3] 34 (0, 0)) (by (with_reducible repeat (first | refine blk_drewN ?_ _ | refine blk_drew ?_ | refine blk_alloc ?_ _)); exact BK101.out) k_ hn_))⟩)) (below_size qb)); have n1_ := qn101 (g := gb101) hb; have n2_ := qs hb; clear BK101; clear HB; have HO105 := n0_; have BK101 := n1_; have HB := n2_; clear n0_ n1_ n2_; (try clear hb); (try clear ho0)))
  go_ret
  exact ⟨_, by first | rfl | (simp [errW_none, errW_some] <;> rfl) | (simp [*, errW_none, errW_some] <;> rfl), by (with_reducible repeat (first | apply Kd.V_alloc | apply Kd.V_drewN | apply Kd.V_drew)); exact Kd.V_mono HO105.out (fun _ hk => hk.1), qb⟩
 replace c3 := Bool.eq_false_iff.mpr c3
 subst c3
 rw [if_neg qf] at H
 obtain rfl := Option.some.inj H
 go_enter Tryd.func77, Tryd.ntmps77
 go_wp2_with (first | ((with_reducible refine gate_dst (N := 1) rfl ?_); refine box_event ?hg (N := 1) ?hd (cs := #[.int .i64 a0_0, .int .i64 a0_1, .string a0_2, .slice A0_3 l0_3.length c0_3]) (t := 34) ?hr ?_; (case hd => rfl); (case hg => rfl); (case hr => first | (go_simp; done) | (go_simp; rfl)); intro gb101 hg w10 hbox hb; have n0_ := qs hb; have n1_ := Aside0.mk (hbox); have n2_ := Aside0.mk ((by rw [hg]; exact (below_size qb) : w.heap.size ≤ gb101)); have n3_ := Aside0.mk ((by rw [hg]; exact (below_size qb) : w.heap.size ≤ gb101)); clear HB; have HB := n0_; have BK101 := n1_; have GW101 := n2_; have GE101 := n3_; clear n0_ n1_ n2_ n3_; clear hb hbox hg; obtain ⟨_, _, _, _, _, _, _, _⟩ := q4 BK101.out) | ((with_reducible refine gate_callee (f := 76) rfl ?_); refine goesL_ (some 5) rfl rfl Tryd.func76 (by kernel_rfl) rfl #[.agg #[.int .i64 a0_0, .int .i64 a0_1, .string a0_2, .slice A0_3 l0_3.length c0_3]] rfl qm ?_; (with_reducible refine (malthouseref02_May.calls k a0_0 a0_1 a0_2 _ _ l0_3 false _ ?side1 ?side2 A2.out).mono ?_); (case side1 => exact qC HR0_3.out); (case side2 => exact HC0_3.out); rintro e w12 ⟨rfl, hb⟩; refine ⟨_, rfl, ?_⟩; have n0_ := qn101 (g := gb101) hb; have n1_ := qs hb; clear BK101; clear HB; have BK101 := n0_; have HB := n1_; clear n0_ n1_; (try clear hb)))
 go_ret
 exact ⟨.slice none 0 0, by first | rfl | (simp [errW_none, errW_some] <;> rfl) | (simp [*, errW_none, errW_some] <;> rfl), Kd.R_V (base := 0) (by first | exact Kd.R_nil _ _ _ _ _ | exact Kd.N_nil _ _ _ _ _ | exact Kd.V_nil _ _ _ _ _ | exact Kd.Q_nil _ _ _ _ _ | exact Kd.S_nil _ _ _ _ _), qb⟩
end Go.Proofs.YtiaccdaeomaogaaDoor.F
namespace Go.Proofs.YtiaccdaeomaogaaDoor.F
open Go.RowKit Go.Proofs.YtiaccdaeomaogaaDoorW.PrintWords Go.Proofs.YtiaccdaeomaogaaDoorW.PrintLast Go.Proofs.YtiaccdaeomaogaaDoorW.PrintMore
set_option linter.unusedVariables false
set_option linter.unusedSimpArgs false
theorem ba_ext {a b : ByteArray} (h : a.toList = b.toList) : a = b := by
  rw [Lib.toList_data, Lib.toList_data] at h
  cases a; cases b
  rename_i d e
  have : d = e := Array.toList_inj.mp h
  rw [this]
inductive NmIn : S34 → ByteArray → Prop
  | here (x : S34) (h : x.f0 = 1) : NmIn x x.f2
  | kid (x a : S34) (nm : ByteArray) (h : x.f0 ≠ 1) (ha : a ∈ x.f3) (hn : NmIn a nm) : NmIn x nm
theorem NmIn.inv {x : S34} {y : ByteArray} (h : NmIn x y) : (x.f0 = 1 ∧ y = x.f2) ∨ (x.f0 ≠ 1 ∧ ∃ a ∈ x.f3, NmIn a y) := by
  cases h with
  | here _ h => exact .inl ⟨h, rfl⟩
  | kid _ a _ h ha hn => exact .inr ⟨h, a, ha, hn⟩
theorem names_mem : ∀ k, (∀ (x : S34) acc l, namesF k x.f0 x.f2 x.f3 acc = some l → ∀ y, y ∈ l ↔ y ∈ acc ∨ NmIn x y) ∧ (∀ ks acc l, namesL k ks acc = some l → ∀ y, y ∈ l ↔ y ∈ acc ∨ ∃ a ∈ ks, NmIn a y)
  | 0 => ⟨fun _ _ _ h => by simp [namesF] at h, fun _ _ _ h => by simp [namesL] at h⟩
  | k + 1 => by
    obtain ⟨h1, h2⟩ := names_mem k
    refine ⟨fun x acc l h y => ?_, fun ks acc l h y => ?_⟩
    · rw [namesF] at h
      by_cases hx : x.f0 = 1
      · rw [if_pos hx] at h
        split at h
        · obtain rfl := Option.some.inj h
          rw [List.mem_append, List.mem_singleton]
          constructor
          · rintro (h | rfl)
            · exact .inl h
            · exact .inr (NmIn.here x hx)
          · rintro (h | h)
            · exact .inl h
            · rcases h.inv with ⟨_, e⟩ | ⟨h, _⟩
              · exact .inr e
              · exact absurd hx h
        · cases h
      · rw [if_neg hx] at h
        rw [h2 _ _ _ h y]
        constructor
        · rintro (h | ⟨a, ha, hn⟩)
          · exact .inl h
          · exact .inr (NmIn.kid x a y hx ha hn)
        · rintro (h | h)
          · exact .inl h
          · rcases h.inv with ⟨h, _⟩ | ⟨_, a, ha, hn⟩
            · exact absurd h hx
            · exact .inr ⟨a, ha, hn⟩
    · cases ks with
      | nil =>
        rw [namesL] at h
        obtain rfl := Option.some.inj h
        simp
      | cons x xs =>
        rw [namesL] at h
        obtain ⟨m, hm, h⟩ := Option.bind_eq_some_iff.mp h
        rw [h2 _ _ _ h y, h1 x _ _ hm y]
        constructor
        · rintro ((h | h) | ⟨a, ha, hn⟩)
          · exact .inl h
          · exact .inr ⟨x, .head _, h⟩
          · exact .inr ⟨a, .tail _ ha, hn⟩
        · rintro (h | ⟨a, ha, hn⟩)
          · exact .inl (.inl h)
          · rcases List.mem_cons.mp ha with rfl | ha
            · exact .inl (.inr hn)
            · exact .inr ⟨a, ha, hn⟩
theorem compactUpTo_mem {α : Type} [Inhabited α] [DecidableEq α] (d : Array α) (x : α) : ∀ m, x ∈ Lib.compactUpTo d m ↔ ∃ j, j < m ∧ d[j]! = x
  | 0 => by simp [Lib.compactUpTo]
  | m + 1 => by
    rw [Lib.compactUpTo_succ, List.mem_append, compactUpTo_mem d x m]
    constructor
    · rintro (⟨j, hj, e⟩ | h)
      · exact ⟨j, by omega, e⟩
      · split at h
        · exact ⟨m, by omega, (List.mem_singleton.mp h).symm⟩
        · cases h
    · rintro ⟨j, hj, e⟩
      by_cases hjm : j < m
      · exact .inl ⟨j, hjm, e⟩
      · obtain rfl : j = m := by omega
        by_cases hk : Lib.keeps d j = true
        · rw [if_pos hk]; exact .inr (by rw [e]; simp)
        · by_cases h0 : j = 0
          · subst h0; exact absurd (Lib.keeps_lt_one d 0 (by omega)) hk
          · by_cases hd : d[j]! = d[j - 1]!
            · exact .inl ⟨j - 1, by omega, by rw [← hd]; exact e⟩
            · exact absurd (Lib.keeps_pos hd) hk
theorem compact_mem {α : Type} [Inhabited α] [DecidableEq α] (zs : List α) (x : α) : x ∈ Lib.compact zs ↔ x ∈ zs := by
  unfold Lib.compact
  rw [compactUpTo_mem, List.mem_iff_getElem]
  constructor
  · rintro ⟨j, hj, e⟩
    exact ⟨j, hj, by rw [← e]; simp [hj]⟩
  · rintro ⟨j, hj, e⟩
    exact ⟨j, hj, by rw [← e]; simp [hj]⟩
theorem namesOut_mem (l : List ByteArray) (y : ByteArray) : y ∈ namesOut l ↔ y ∈ l := by
  unfold namesOut ofL cmpL srtL
  rw [List.mem_map]
  constructor
  · rintro ⟨b, hb, rfl⟩
    rw [compact_mem, List.mem_mergeSort, List.mem_map] at hb
    obtain ⟨z, hz, rfl⟩ := hb
    have : (⟨z.data.toList.toArray⟩ : ByteArray) = z := by cases z; simp
    rw [this]; exact hz
  · intro h
    refine ⟨y.data.toList, ?_, by cases y; simp⟩
    rw [compact_mem, List.mem_mergeSort, List.mem_map]
    exact ⟨y, h, rfl⟩
theorem namesA_tot {x : S34} (h : OkE x) : ∃ l, Tot (fun k => expr_Names.f k x.f0 x.f1 x.f2 x.f3) l ∧ l.length ≤ 65 ∧ ∀ y, y ∈ l ↔ mayP x = true ∧ NmIn x y := by
  obtain ⟨b, hb, nb⟩ := May_tot h
  have em : mayP x = b := Tot.uniq (may_both h).1 hb
  rw [em]
  cases b with
  | true =>
    obtain ⟨l, hl, ll⟩ := (nb rfl).1 [] (by simp)
    simp only [List.length_nil, Int.natCast_zero, Int.zero_add] at ll
    refine ⟨namesOut l, Tot.bind hb ?_, ?_, fun y => ?_⟩
    · simp only [if_true]
      exact Tot.bind hl (by simp only [if_pos (show l.length < 8796093022208 by omega)]; exact Tot.const _)
    · rw [namesOut_len]
      have h1 : (cmpL l).length ≤ (srtL l).length := Lib.compact_length_le (srtL l)
      have h2 : (srtL l).length = l.length := by unfold srtL; rw [List.length_mergeSort, List.length_map]
      omega
    · obtain ⟨K, hK⟩ := hl
      rw [namesOut_mem, (names_mem K).1 x [] l (hK K (Nat.le_refl _)) y]
      simp
  | false => exact ⟨[], Tot.bind hb (by simp only [if_neg (show ¬ (false = true) by decide)]; exact Tot.const _), by simp, fun y => by simp⟩
theorem docNames_l1 (x : S34) (l : List ByteArray) (hl : l.length < 1000) : ∀ (n i : Nat) (out : List ByteArray) (done : Bool), i + n = l.length → out.length ≤ i + (if done = true then 1 else 0) → (∀ y, y ∈ out ↔ y ∈ l.take i ∨ (done = true ∧ y = x.f2)) →
    ∃ r, Tot (fun k => malthouseref02_names.l1 k l out done (i : Int) x.f0 x.f1 x.f2 x.f3) r ∧ r.length ≤ l.length + 1 ∧ ∀ y, y ∈ r ↔ y ∈ l ∨ y = x.f2
  | 0, i, out, done, e, ho, hm => by
    have ho1 : out.length ≤ i + 1 := by cases done <;> simp at ho <;> omega
    rw [List.take_of_length_le (by omega)] at hm
    cases done with
    | true => exact ⟨out, Tot.succ (by simp only [malthouseref02_names.l1, if_neg (show ¬ (i : Int) < (l.length : Int) by omega), if_true]; exact Tot.const _), by omega, fun y => by rw [hm y]; simp⟩
    | false => exact ⟨out ++ [x.f2], Tot.succ (by simp only [malthouseref02_names.l1, if_neg (show ¬ (i : Int) < (l.length : Int) by omega), ff, if_pos (show out.length < 8796093022208 by omega)]; exact Tot.const _), by simp at ho ⊢; omega, fun y => by rw [List.mem_append, hm y]; simp⟩
  | n + 1, i, out, done, e, ho, hm => by
    have ho1 : out.length ≤ i + 1 := by cases done <;> simp at ho <;> omega
    have hi : i < l.length := by omega
    have ht : l.take (i + 1) = l.take i ++ [rdOf ByteArray.empty l (i : Int)] := by
      rw [List.take_succ_eq_append_getElem hi]
      unfold rdOf; rw [Int.toNat_natCast, List.getD, List.getElem?_eq_getElem hi]; rfl
    have hmem : rdOf ByteArray.empty l (i : Int) ∈ l := by
      unfold rdOf; rw [Int.toNat_natCast, List.getD, List.getElem?_eq_getElem hi]; exact List.getElem_mem hi
    by_cases hq : (rdOf ByteArray.empty l (i : Int)).toList = x.f2.toList
    · refine ⟨l, Tot.succ (by simp only [malthouseref02_names.l1, if_pos (show (i : Int) < (l.length : Int) by omega), if_pos (show 0 ≤ (i : Int) by omega), if_pos hq]; exact Tot.const _), by omega, fun y => ?_⟩
      constructor
      · exact .inl
      · rintro (h | rfl)
        · exact h
        · rw [← ba_ext hq]; exact hmem
    · cases done with
      | true =>
        obtain ⟨r, hr, rl, rm⟩ := docNames_l1 x l hl n (i + 1) (out ++ [rdOf ByteArray.empty l (i : Int)]) true (by omega) (by simp at ho ⊢; omega) (fun y => by rw [List.mem_append, hm y, ht, List.mem_append]; simp only [List.mem_singleton, true_and]; constructor <;> intro h <;> rcases h with (h | h) | h <;> simp [h])
        exact ⟨r, Tot.succ (by simp only [malthouseref02_names.l1, if_pos (show (i : Int) < (l.length : Int) by omega), if_pos (show 0 ≤ (i : Int) by omega), if_neg hq, if_true, if_pos (show out.length < 8796093022208 by omega), w1 (show 0 ≤ (i : Int) by omega) (show (i : Int) < 9223372036854775807 by omega)]; exact hr), rl, rm⟩
      | false =>
        by_cases hb : Op.bytesLess x.f2.toList (rdOf ByteArray.empty l (i : Int)).toList = true
        · obtain ⟨r, hr, rl, rm⟩ := docNames_l1 x l hl n (i + 1) (out ++ [x.f2] ++ [rdOf ByteArray.empty l (i : Int)]) true (by omega) (by simp at ho ⊢; omega) (fun y => by rw [List.mem_append, List.mem_append, hm y, ht, List.mem_append]; simp only [List.mem_singleton, true_and, Bool.false_eq_true, false_and, or_false]; constructor <;> intro h <;> rcases h with (h | h) | h <;> simp [h])
          exact ⟨r, Tot.succ (by simp only [malthouseref02_names.l1, if_pos (show (i : Int) < (l.length : Int) by omega), if_pos (show 0 ≤ (i : Int) by omega), if_neg hq, ff, if_pos hb, if_pos (show out.length < 8796093022208 by omega), Option.bind_some, if_pos (show (out ++ [x.f2]).length < 8796093022208 by simp; omega), w1 (show 0 ≤ (i : Int) by omega) (show (i : Int) < 9223372036854775807 by omega)]; exact hr), rl, rm⟩
        · obtain ⟨r, hr, rl, rm⟩ := docNames_l1 x l hl n (i + 1) (out ++ [rdOf ByteArray.empty l (i : Int)]) false (by omega) (by simp at ho ⊢; omega) (fun y => by rw [List.mem_append, hm y, ht, List.mem_append]; simp only [List.mem_singleton, Bool.false_eq_true, false_and, or_false])
          exact ⟨r, Tot.succ (by simp only [malthouseref02_names.l1, if_pos (show (i : Int) < (l.length : Int) by omega), if_pos (show 0 ≤ (i : Int) by omega), if_neg hq, ff, if_neg hb, if_pos (show out.length < 8796093022208 by omega), w1 (show 0 ≤ (i : Int) by omega) (show (i : Int) < 9223372036854775807 by omega)]; exact hr), rl, rm⟩
theorem docNames_kids (x : S34) (hx : x.f0 ≠ 1) (hk : ∀ a ∈ x.f3, ∀ l : List ByteArray, l.length + szE a < 900 → ∃ r, Tot (fun k => malthouseref02_names.f k a.f0 a.f1 a.f2 a.f3 l) r ∧ r.length ≤ l.length + szE a ∧ ∀ y, y ∈ r ↔ y ∈ l ∨ NmIn a y) (hlen : x.f3.length < 1000) :
    ∀ (n i : Nat) (l : List ByteArray), i + n = x.f3.length → l.length + szL (x.f3.drop i) < 900 → ∃ r, Tot (fun k => malthouseref02_names.l0 k l (i : Int) x.f0 x.f1 x.f2 x.f3) r ∧ r.length ≤ l.length + szL (x.f3.drop i) ∧ ∀ y, y ∈ r ↔ y ∈ l ∨ ∃ a ∈ x.f3.drop i, NmIn a y
  | 0, i, l, e, hs => by
    refine ⟨l, Tot.succ (by simp only [malthouseref02_names.l0, if_neg (show ¬ (i : Int) < (x.f3.length : Int) by omega), if_neg hx]; exact Tot.const _), by omega, fun y => ?_⟩
    rw [List.drop_eq_nil_of_le (by omega)]; simp
  | n + 1, i, l, e, hs => by
    have hi : i < x.f3.length := by omega
    rw [drop34 hi, szL] at hs
    obtain ⟨r, hr, rl, rm⟩ := hk _ (rd_mem hi) l (by omega)
    obtain ⟨q, hq, ql, qm⟩ := docNames_kids x hx hk hlen n (i + 1) r (by omega) (by omega)
    refine ⟨q, Tot.succ ?_, by rw [drop34 hi, szL]; omega, fun y => ?_⟩
    · simp only [malthouseref02_names.l0, if_pos (show (i : Int) < (x.f3.length : Int) by omega), if_pos (show 0 ≤ (i : Int) by omega), w1 (show 0 ≤ (i : Int) by omega) (show (i : Int) < 9223372036854775807 by omega)]
      exact Tot.bind hr hq
    · rw [qm y, rm y, drop34 hi]
      constructor
      · rintro ((h | h) | ⟨a, ha, hn⟩)
        · exact .inl h
        · exact .inr ⟨_, .head _, h⟩
        · exact .inr ⟨a, .tail _ ha, hn⟩
      · rintro (h | ⟨a, ha, hn⟩)
        · exact .inl (.inl h)
        · rcases List.mem_cons.mp ha with rfl | ha
          · exact .inl (.inr hn)
          · exact .inr ⟨a, ha, hn⟩
theorem docNames_tot {x : S34} (h : WfE x) : ∀ l : List ByteArray, l.length + szE x < 900 → ∃ r, Tot (fun k => malthouseref02_names.f k x.f0 x.f1 x.f2 x.f3 l) r ∧ r.length ≤ l.length + szE x ∧ ∀ y, y ∈ r ↔ y ∈ l ∨ NmIn x y := by
  have K : ∀ x : S34, x.f0 ≠ 1 → x.f3.length < 1000 → (∀ a ∈ x.f3, ∀ l : List ByteArray, l.length + szE a < 900 → ∃ r, Tot (fun k => malthouseref02_names.f k a.f0 a.f1 a.f2 a.f3 l) r ∧ r.length ≤ l.length + szE a ∧ ∀ y, y ∈ r ↔ y ∈ l ∨ NmIn a y) → ∀ l : List ByteArray, l.length + szE x < 900 → ∃ r, Tot (fun k => malthouseref02_names.f k x.f0 x.f1 x.f2 x.f3 l) r ∧ r.length ≤ l.length + szE x ∧ ∀ y, y ∈ r ↔ y ∈ l ∨ NmIn x y := fun x hx hlen hk l hl => by
    rw [szE_eq] at hl
    obtain ⟨r, hr, rl, rm⟩ := docNames_kids x hx hk hlen x.f3.length 0 l (by omega) (by rw [List.drop_zero]; omega)
    rw [List.drop_zero] at rl rm
    refine ⟨r, Tot.succ (by simp only [malthouseref02_names.f]; exact hr), by rw [szE_eq]; omega, fun y => ?_⟩
    rw [rm y]
    constructor
    · rintro (h | ⟨a, ha, hn⟩)
      · exact .inl h
      · exact .inr (NmIn.kid x a y hx ha hn)
    · rintro (h | h)
      · exact .inl h
      · rcases h.inv with ⟨h, _⟩ | ⟨_, a, ha, hn⟩
        · exact absurd h hx
        · exact .inr ⟨a, ha, hn⟩
  induction h with
  | num x h hk => exact K x (by omega) (by rw [hk]; simp) (fun a ha => by rw [hk] at ha; cases ha)
  | name x h hk hn =>
    intro l hl
    rw [szE_eq, hk] at hl
    simp only [szL] at hl
    obtain ⟨r, hr, rl, rm⟩ := docNames_l1 x l (by omega) l.length 0 [] false (by omega) (by simp) (fun y => by simp)
    refine ⟨r, Tot.succ ?_, by rw [szE_eq, hk]; simp only [szL]; omega, fun y => ?_⟩
    · simp only [malthouseref02_names.f]
      refine Tot.succ ?_
      simp only [malthouseref02_names.l0, if_neg (show ¬ (0 : Int) < (x.f3.length : Int) by rw [hk]; simp), if_pos h]
      exact hr
    · rw [rm y]
      constructor
      · rintro (h1 | rfl)
        · exact .inl h1
        · exact .inr (NmIn.here x h)
      · rintro (h1 | h1)
        · exact .inl h1
        · rcases h1.inv with ⟨_, e⟩ | ⟨h2, _⟩
          · exact .inr e
          · exact absurd h h2
  | one x a h hk ha ih => exact K x (by omega) (by rw [hk]; simp) (fun b hb => by rw [hk] at hb; rw [List.mem_singleton.mp hb]; exact ih)
  | two x a b h hk ha hb iha ihb => exact K x (by omega) (by rw [hk]; simp) (fun c hc => by
      rw [hk] at hc
      rcases List.mem_cons.mp hc with rfl | hc
      · exact iha
      · rw [List.mem_singleton.mp hc]; exact ihb)
theorem namesB_tot {x : S34} (h : OkE x) : ∃ l, Tot (fun k => malthouseref02_Names.f k x.f0 x.f1 x.f2 x.f3) l ∧ l.length ≤ 65 ∧ ∀ y, y ∈ l ↔ mayP x = true ∧ NmIn x y := by
  obtain ⟨_, h2, h3⟩ := may_both h
  cases hm : mayP x with
  | true =>
    rw [hm] at h2
    obtain ⟨w, z⟩ := h3 hm
    obtain ⟨r, hr, rl, rm⟩ := docNames_tot w [] (by simp; omega)
    simp at rl
    refine ⟨r, Tot.bind h2 ?_, by omega, fun y => by rw [rm y]; simp⟩
    simp only [if_true]
    exact Tot.bind hr (Tot.const _)
  | false =>
    rw [hm] at h2
    exact ⟨[], Tot.bind h2 (by simp only [ff]; exact Tot.const _), by simp, fun y => by simp⟩
end Go.Proofs.YtiaccdaeomaogaaDoor.F
namespace Go.Proofs.YtiaccdaeomaogaaDoor.F
open Go.RowKit Go.Proofs.YtiaccdaeomaogaaDoorW.PrintWords Go.Proofs.YtiaccdaeomaogaaDoorW.PrintLast Go.Proofs.YtiaccdaeomaogaaDoorW.PrintMore
attribute [local go_sem] max2_int min2_int max_two min_two max_three min_three max_four min_four   -- for this text's walks alone
set_option linter.unusedVariables false
set_option linter.unusedSimpArgs false
def malthouseref11_reckons.f (a0 : Int) : Option (Bool) := if a0 = 0 then (some true) else (if a0 = 1 then (some true) else (if a0 = 2 then (some true) else (if a0 = 3 then (some true) else (if a0 = 4 then (some true) else (some (a0 == 5))))))
set_option maxHeartbeats 8000000 in
set_option maxRecDepth 100000 in
theorem malthouseref11_reckons.calls (a0 : Int) (r : Bool) (w : World) (h : malthouseref11_reckons.f a0 = some r) :
  Calls Tryd.prog 71 #[.int .i64 a0] w fun e w' => e = .returned (.bool r) ∧ Drawn0 w w' := by
 have H : (if a0 = 0 then (some true) else (if a0 = 1 then (some true) else (if a0 = 2 then (some true) else (if a0 = 3 then (some true) else (if a0 = 4 then (some true) else (some (a0 == 5))))))) = some r := h
 clear h
 by_cases c2 : a0 = 0
 ·rw [if_pos c2] at H
  obtain ⟨c2b0, c2b1⟩ := qe c2
  clear c2
  obtain rfl := Option.some.inj H
  go_enter Tryd.func71, Tryd.ntmps71
  go_wp2
  go_ret
  exact ⟨by first | rfl | (simp; done) | (simp [*]; done), by repeat (first | exact Drawn0.refl _ | apply Drawn0.step)⟩
 rw [if_neg c2] at H
 obtain ⟨c2b0, c2b1⟩ := qd c2
 by_cases c3 : a0 = 1
 ·rw [if_pos c3] at H
  obtain ⟨c3b0, c3b1⟩ := qe c3
  clear c3
  obtain rfl := Option.some.inj H
  go_enter Tryd.func71, Tryd.ntmps71
  go_wp2
  go_ret
  exact ⟨by first | rfl | (simp; done) | (simp [*]; done), by repeat (first | exact Drawn0.refl _ | apply Drawn0.step)⟩
 rw [if_neg c3] at H
 obtain ⟨c3b0, c3b1⟩ := qd c3
 by_cases c4 : a0 = 2
 ·rw [if_pos c4] at H
  obtain ⟨c4b0, c4b1⟩ := qe c4
  clear c4
  obtain rfl := Option.some.inj H
  go_enter Tryd.func71, Tryd.ntmps71
  go_wp2
  go_ret
  exact ⟨by first | rfl | (simp; done) | (simp [*]; done), by repeat (first | exact Drawn0.refl _ | apply Drawn0.step)⟩
 rw [if_neg c4] at H
 obtain ⟨c4b0, c4b1⟩ := qd c4
 by_cases c5 : a0 = 3
 ·rw [if_pos c5] at H
  obtain ⟨c5b0, c5b1⟩ := qe c5
  clear c5
  obtain rfl := Option.some.inj H
  go_enter Tryd.func71, Tryd.ntmps71
  go_wp2
  go_ret
  exact ⟨by first | rfl | (simp; done) | (simp [*]; done), by repeat (first | exact Drawn0.refl _ | apply Drawn0.step)⟩
 rw [if_neg c5] at H
 obtain ⟨c5b0, c5b1⟩ := qd c5
 by_cases c6 : a0 = 4
 ·rw [if_pos c6] at H
  obtain ⟨c6b0, c6b1⟩ := qe c6
  clear c6
  obtain rfl := Option.some.inj H
  go_enter Tryd.func71, Tryd.ntmps71
  go_wp2
  go_ret
  exact ⟨by first | rfl | (simp; done) | (simp [*]; done), by repeat (first | exact Drawn0.refl _ | apply Drawn0.step)⟩
 rw [if_neg c6] at H
 obtain ⟨c6b0, c6b1⟩ := qd c6
 obtain rfl := Option.some.inj H
 go_enter Tryd.func71, Tryd.ntmps71
 go_wp2
 go_ret
 exact ⟨by first | rfl | (simp; done) | (simp [*]; done), by repeat (first | exact Drawn0.refl _ | apply Drawn0.step)⟩
mutual
def malthouseref11_form.j0 : Nat → Bool → Int → ByteArray → ByteArray → Int → Int → ByteArray → List (S34) → Int → Option (Bool)
  | 0, _, _, _, _, _, _, _, _, _ => none
  | k + 1, x3, x102000, x102001, x102002, x102003, x102004, x102005, x102006, x102007 => (malthouseref11_reckons.f x102000).bind fun t102 => (if x102000 < 0 then (malthouseref11_form.j1 k true x102000 x102001 x102002 x102003 x102004 x102005 x102006 x102007) else (if x102000 > 7 then (malthouseref11_form.j1 k true x102000 x102001 x102002 x102003 x102004 x102005 x102006 x102007) else (if t102 = true then (malthouseref11_form.j1 k false x102000 x102001 x102002 x102003 x102004 x102005 x102006 x102007) else (malthouseref11_form.j1 k (!x3) x102000 x102001 x102002 x102003 x102004 x102005 x102006 x102007))))
def malthouseref11_form.j1 : Nat → Bool → Int → ByteArray → ByteArray → Int → Int → ByteArray → List (S34) → Int → Option (Bool)
  | 0, _, _, _, _, _, _, _, _, _ => none
  | k + 1, x46, x102000, x102001, x102002, x102003, x102004, x102005, x102006, x102007 => if x46 = true then (some false) else (if x102007 = 0 then (malthouseref11_form.j2 k false x102000 x102001 x102002 x102003 x102004 x102005 x102006 x102007) else (malthouseref11_form.j2 k (x102000 != 6) x102000 x102001 x102002 x102003 x102004 x102005 x102006 x102007))
def malthouseref11_form.j2 : Nat → Bool → Int → ByteArray → ByteArray → Int → Int → ByteArray → List (S34) → Int → Option (Bool)
  | 0, _, _, _, _, _, _, _, _, _ => none
  | k + 1, x54, x102000, x102001, x102002, x102003, x102004, x102005, x102006, x102007 => if x54 = true then (some false) else (if x102002.toList = ([] : List UInt8) then (if x102001.toList = ([] : List UInt8) then (some true) else (if x102000 = 1 then (some false) else (if x102000 = 2 then (some false) else (some (x102000 != 6))))) else (if x102000 = 3 then (if x102001.toList = ([] : List UInt8) then (some true) else (if x102000 = 1 then (some false) else (if x102000 = 2 then (some false) else (some (x102000 != 6))))) else (if x102000 = 5 then (if x102001.toList = ([] : List UInt8) then (some true) else (if x102000 = 1 then (some false) else (if x102000 = 2 then (some false) else (some (x102000 != 6))))) else (some false))))
end
def malthouseref11_form.f (k : Nat) (a0_0 : Int) (a0_1 : ByteArray) (a0_2 : ByteArray) (a0_3 : Int) (a0_4 : Int) (a0_5 : ByteArray) (l0_6 : List (S34)) (a0_7 : Int) : Option (Bool) := if a0_3 = 0 then (if a0_4 = 0 then (if a0_5.toList = ([] : List UInt8) then (malthouseref11_form.j0 k ((l0_6.length : Int) == 0) a0_0 a0_1 a0_2 a0_3 a0_4 a0_5 l0_6 a0_7) else (malthouseref11_form.j0 k false a0_0 a0_1 a0_2 a0_3 a0_4 a0_5 l0_6 a0_7)) else (malthouseref11_form.j0 k false a0_0 a0_1 a0_2 a0_3 a0_4 a0_5 l0_6 a0_7)) else (malthouseref11_form.j0 k false a0_0 a0_1 a0_2 a0_3 a0_4 a0_5 l0_6 a0_7)
set_option maxHeartbeats 8000000 in
set_option maxRecDepth 100000 in
theorem malthouseref11_form.calls (k : Nat) (a0_0 : Int) (a0_1 : ByteArray) (a0_2 : ByteArray) (a0_3 : Int) (a0_4 : Int) (a0_5 : ByteArray) (A0_6 : Option Addr) (c0_6 : Nat) (l0_6 : List (S34)) (a0_7 : Int) (r : Bool) (w : World) (hr0_6 : Kd.C k34 w A0_6 l0_6.length l0_6) (hc0_6 : l0_6.length ≤ c0_6) (h : malthouseref11_form.f k a0_0 a0_1 a0_2 a0_3 a0_4 a0_5 l0_6 a0_7 = some r) :
    Calls Tryd.prog 74 #[.agg #[.int .i64 a0_0, .string a0_1, .string a0_2, .int .i64 a0_3, .int .i64 a0_4, .string a0_5, .slice A0_6 l0_6.length c0_6, .int .i64 a0_7]] w fun e w' => e = .returned (.bool r) ∧ Below w.heap.size w w' := by
  have hu67 := Tryd.underlying67
  have HR0_6 := Aside0.mk hr0_6
  have HC0_6 := Aside0.mk hc0_6
  clear hr0_6 hc0_6
  have HB := Aside0.mk (Below.refl w.heap.size w)
  have H : (if a0_3 = 0 then (if a0_4 = 0 then (if a0_5.toList = ([] : List UInt8) then (malthouseref11_form.j0 k ((l0_6.length : Int) == 0) a0_0 a0_1 a0_2 a0_3 a0_4 a0_5 l0_6 a0_7) else (malthouseref11_form.j0 k false a0_0 a0_1 a0_2 a0_3 a0_4 a0_5 l0_6 a0_7)) else (malthouseref11_form.j0 k false a0_0 a0_1 a0_2 a0_3 a0_4 a0_5 l0_6 a0_7)) else (malthouseref11_form.j0 k false a0_0 a0_1 a0_2 a0_3 a0_4 a0_5 l0_6 a0_7)) = some r := h
  clear h
  have HC2 := Aside0.mk H
  clear H
  go_enter Tryd.func74, Tryd.ntmps74
  go_upto_region 1 with (first | ((with_reducible refine gate_dst (N := 1) rfl ?_); (try (refine gate_guard (by rfl) ?_; dsimp only)); refine box_event ?hg (N := 1) ?hd (cs := #[.int .i64 a0_0, .string a0_1, .string a0_2, .int .i64 a0_3, .int .i64 a0_4, .string a0_5, .slice A0_6 l0_6.length c0_6, .int .i64 a0_7]) (t := 67) ?hr ?_; (case hd => rfl); (case hg => rfl); (case hr => first | (go_simp; done) | (go_simp; rfl)); intro gb101 hg w3 hbox hb; have n0_ := qs hb; have n1_ := Aside0.mk (hbox); have n2_ := Aside0.mk ((by rw [hg]; exact (below_size qb) : w.heap.size ≤ gb101)); have n3_ := Aside0.mk ((by rw [hg]; exact (below_size qb) : w.heap.size ≤ gb101)); clear HB; have HB := n0_; have BK101 := n1_; have GW101 := n2_; have GE101 := n3_; clear n0_ n1_ n2_ n3_; clear hb hbox hg))
  (try simp only [Act.put, List.setIfInBounds_toArray, List.set_cons_zero, List.set_cons_succ])
  go_cut [3] (fun v3 wc => ∃ (kq : Nat) (x3_1 : Bool), v3 = .bool x3_1 ∧ Aside0 (malthouseref11_form.j0 kq x3_1 a0_0 a0_1 a0_2 a0_3 a0_4 a0_5 l0_6 a0_7 = some r) ∧ Aside0 (kq ≤ k) ∧ Aside0 (wc.heap[gb101]? = some (.cells #[.int .i64 a0_0, .string a0_1, .string a0_2, .int .i64 a0_3, .int .i64 a0_4, .string a0_5, (.slice A0_6 l0_6.length c0_6), .int .i64 a0_7] 67 (0, 0))) ∧ Aside0 (Below w.heap.size w wc))
  case first =>
    have H := HC2.out
    clear HC2
    by_cases c4 : a0_3 = 0
    · rw [if_pos c4] at H
      obtain ⟨c4b0, c4b1⟩ := qe c4
      clear c4
      (first | rw [c4b0] | (simp only [i64_w, i32_w]; rw [c4b0]) | skip)
      by_cases c5 : a0_4 = 0
      · rw [if_pos c5] at H
        obtain ⟨c5b0, c5b1⟩ := qe c5
        clear c5
        by_cases c6 : a0_5.toList = ([] : List UInt8)
        · rw [if_pos c6] at H
          obtain ⟨c6b0, c6b1⟩ := qe c6
          clear c6
          have H' := Aside0.mk H
          clear H
          obtain ⟨_, _, _, _, _, _, _, _, _, _, _, _, _, _, _, _⟩ := q8 BK101.out
          go_wp2
          go_meet
          case rel => exact ⟨_, (((l0_6.length : Int) == 0)), qv, H', ql, qk101, qB⟩
        rw [if_neg c6] at H
        obtain ⟨c6b0, c6b1⟩ := qd c6
        have H' := Aside0.mk H
        clear H
        obtain ⟨_, _, _, _, _, _, _, _, _, _, _, _, _, _, _, _⟩ := q8 BK101.out
        go_wp2
        go_meet
        case rel => exact ⟨_, (false), qv, H', ql, qk101, qB⟩
      rw [if_neg c5] at H
      obtain ⟨c5b0, c5b1⟩ := qd c5
      have H' := Aside0.mk H
      clear H
      obtain ⟨_, _, _, _, _, _, _, _, _, _, _, _, _, _, _, _⟩ := q8 BK101.out
      go_wp2
      go_meet
      case rel => exact ⟨_, (false), qv, H', ql, qk101, qB⟩
    rw [if_neg c4] at H
    obtain ⟨c4b0, c4b1⟩ := qd c4
    (first | rw [c4b0] | (simp only [i64_w, i32_w]; rw [c4b0]) | skip)
    have H' := Aside0.mk H
    clear H
    obtain ⟨_, _, _, _, _, _, _, _, _, _, _, _, _, _, _, _⟩ := q8 BK101.out
    go_wp2
    go_meet
    case rel => exact ⟨_, (false), qv, H', ql, qk101, qB⟩
  clear HC2
  obtain ⟨kq, x3_1, rfl, HA, HJ1, BK101, HB⟩ := hcut
  cases kq with
  | zero => exact absurd HA.out (by simp [malthouseref11_form.j0])
  | succ kj1 =>
    have H := HA.out
    clear HA
    simp only [malthouseref11_form.j0] at H
    replace H := qi H
    obtain ⟨t102, A11, H⟩ := H
    have HC12 := Aside0.mk H
    clear H
    obtain ⟨_, _, _, _, _, _, _, _, _, _, _, _, _, _, _, _⟩ := q8 BK101.out
    go_upto_region 3 with (first | ((with_reducible refine gate_callee (f := 71) rfl ?_); refine goesL_ (some 30) rfl rfl Tryd.func71 (by kernel_rfl) rfl #[.int .i64 a0_0] rfl qm ?_; (with_reducible refine (malthouseref11_reckons.calls a0_0 t102 _ A11.out).mono ?_); rintro e w' ⟨rfl, ⟨nd, rfl⟩⟩; refine ⟨_, rfl, ?_⟩))
    (try simp only [Act.put, List.setIfInBounds_toArray, List.set_cons_zero, List.set_cons_succ])
    go_cut [46] (fun v46 wc => ∃ (kq : Nat) (x46_11 : Bool), v46 = .bool x46_11 ∧ Aside0 (malthouseref11_form.j1 kq x46_11 a0_0 a0_1 a0_2 a0_3 a0_4 a0_5 l0_6 a0_7 = some r) ∧ Aside0 (kq ≤ kj1) ∧ Aside0 (wc.heap[gb101]? = some (.cells #[.int .i64 a0_0, .string a0_1, .string a0_2, .int .i64 a0_3, .int .i64 a0_4, .string a0_5, (.slice A0_6 l0_6.length c0_6), .int .i64 a0_7] 67 (0, 0))) ∧ Aside0 (Below w.heap.size w wc))
    case first =>
      have H := HC12.out
      clear HC12
      by_cases c14 : a0_0 < 0
      · rw [if_pos c14] at H
        have c14b0 : decide (a0_0 < 0) = true := decide_eq_true c14
        clear c14
        (first | rw [c14b0] | (simp only [i64_w, i32_w]; rw [c14b0]) | skip)
        have H' := Aside0.mk H
        clear H
        obtain ⟨_, _, _, _, _, _, _, _, _, _, _, _, _, _, _, _⟩ := q8 BK101.out
        go_wp2
        go_meet
        case rel => exact ⟨_, (true), qv, H', ⟨by have := HJ1.out; first | omega | exact Nat.le_refl _⟩, qk101, qB⟩
      rw [if_neg c14] at H
      have c14b0 : decide (a0_0 < 0) = false := decide_eq_false c14
      clear c14
      (first | rw [c14b0] | (simp only [i64_w, i32_w]; rw [c14b0]) | skip)
      by_cases c16 : a0_0 > 7
      · rw [if_pos c16] at H
        have c16b0 : decide (7 < a0_0) = true := decide_eq_true c16
        clear c16
        have H' := Aside0.mk H
        clear H
        obtain ⟨_, _, _, _, _, _, _, _, _, _, _, _, _, _, _, _⟩ := q8 BK101.out
        go_wp2
        go_meet
        case rel => exact ⟨_, (true), qv, H', ⟨by have := HJ1.out; first | omega | exact Nat.le_refl _⟩, qk101, qB⟩
      rw [if_neg c16] at H
      have c16b0 : decide (7 < a0_0) = false := decide_eq_false c16
      clear c16
      by_cases c18 : t102 = true
      · subst c18
        rw [if_pos rfl] at H
        have H' := Aside0.mk H
        clear H
        obtain ⟨_, _, _, _, _, _, _, _, _, _, _, _, _, _, _, _⟩ := q8 BK101.out
        go_wp2
        go_meet
        case rel => exact ⟨_, (false), qv, H', ⟨by have := HJ1.out; first | omega | exact Nat.le_refl _⟩, qk101, qB⟩
      replace c18 := Bool.eq_false_iff.mpr c18
      subst c18
      rw [if_neg qf] at H
      have H' := Aside0.mk H
      clear H
      obtain ⟨_, _, _, _, _, _, _, _, _, _, _, _, _, _, _, _⟩ := q8 BK101.out
      go_wp2
      go_meet
      case rel => exact ⟨_, (!x3_1), qv, H', ⟨by have := HJ1.out; first | omega | exact Nat.le_refl _⟩, qk101, qB⟩
    clear HC12
    obtain ⟨kq, x46_11, rfl, HA, HJ11, BK101, HB⟩ := hcut
    cases kq with
    | zero => exact absurd HA.out (by simp [malthouseref11_form.j1])
    | succ kj11 =>
      have H := HA.out
      clear HA
      simp only [malthouseref11_form.j1] at H
      by_cases c21 : x46_11 = true
      · subst c21
        rw [if_pos rfl] at H
        obtain rfl := Option.some.inj H
        go_wp2
        go_ret
        exact qr
      replace c21 := Bool.eq_false_iff.mpr c21
      subst c21
      rw [if_neg qf] at H
      have HC22 := Aside0.mk H
      clear H
      go_upto_region 5 with (fail)
      go_cut [54] (fun v54 wc => ∃ (kq : Nat) (x54_21 : Bool), v54 = .bool x54_21 ∧ Aside0 (malthouseref11_form.j2 kq x54_21 a0_0 a0_1 a0_2 a0_3 a0_4 a0_5 l0_6 a0_7 = some r) ∧ Aside0 (kq ≤ kj11) ∧ Aside0 (wc.heap[gb101]? = some (.cells #[.int .i64 a0_0, .string a0_1, .string a0_2, .int .i64 a0_3, .int .i64 a0_4, .string a0_5, (.slice A0_6 l0_6.length c0_6), .int .i64 a0_7] 67 (0, 0))) ∧ Aside0 (Below w.heap.size w wc))
      case first =>
        have H := HC22.out
        clear HC22
        by_cases c23 : a0_7 = 0
        · rw [if_pos c23] at H
          obtain ⟨c23b0, c23b1⟩ := qe c23
          clear c23
          (first | rw [c23b0] | (simp only [i64_w, i32_w]; rw [c23b0]) | skip)
          have H' := Aside0.mk H
          clear H
          obtain ⟨_, _, _, _, _, _, _, _, _, _, _, _, _, _, _, _⟩ := q8 BK101.out
          go_wp2
          go_meet
          case rel => exact ⟨_, (false), qv, H', ⟨by have := HJ1.out; have := HJ11.out; first | omega | exact Nat.le_refl _⟩, qk101, qB⟩
        rw [if_neg c23] at H
        obtain ⟨c23b0, c23b1⟩ := qd c23
        (first | rw [c23b0] | (simp only [i64_w, i32_w]; rw [c23b0]) | skip)
        have H' := Aside0.mk H
        clear H
        obtain ⟨_, _, _, _, _, _, _, _, _, _, _, _, _, _, _, _⟩ := q8 BK101.out
        go_wp2
        go_meet
        case rel => exact ⟨_, ((a0_0 != 6)), qv, H', ⟨by have := HJ1.out; have := HJ11.out; first | omega | exact Nat.le_refl _⟩, qk101, qB⟩
      clear HC22
      obtain ⟨kq, x54_21, rfl, HA, HJ21, BK101, HB⟩ := hcut
      cases kq with
      | zero => exact absurd HA.out (by simp [malthouseref11_form.j2])
      | succ kj21 =>
        have H := HA.out
        clear HA
        simp only [malthouseref11_form.j2] at H
        by_cases c26 : x54_21 = true
        · subst c26
          rw [if_pos rfl] at H
          obtain rfl := Option.some.inj H
          go_wp2
          go_ret
          exact qr
        replace c26 := Bool.eq_false_iff.mpr c26
        subst c26
        rw [if_neg qf] at H
        by_cases c27 : a0_2.toList = ([] : List UInt8)
        · rw [if_pos c27] at H
          obtain ⟨c27b0, c27b1⟩ := qe c27
          clear c27
          by_cases c28 : a0_1.toList = ([] : List UInt8)
          · rw [if_pos c28] at H
            obtain ⟨c28b0, c28b1⟩ := qe c28
            clear c28
            obtain rfl := Option.some.inj H
            obtain ⟨_, _, _, _, _, _, _, _, _, _, _, _, _, _, _, _⟩ := q8 BK101.out
            go_wp2
            go_ret
            exact qr
          rw [if_neg c28] at H
          obtain ⟨c28b0, c28b1⟩ := qd c28
          by_cases c30 : a0_0 = 1
          · rw [if_pos c30] at H
            obtain ⟨c30b0, c30b1⟩ := qe c30
            clear c30
            obtain rfl := Option.some.inj H
            obtain ⟨_, _, _, _, _, _, _, _, _, _, _, _, _, _, _, _⟩ := q8 BK101.out
            go_wp2
            go_ret
            exact qr
          rw [if_neg c30] at H
          obtain ⟨c30b0, c30b1⟩ := qd c30
          by_cases c32 : a0_0 = 2
          · rw [if_pos c32] at H
            obtain ⟨c32b0, c32b1⟩ := qe c32
            clear c32
            obtain rfl := Option.some.inj H
            obtain ⟨_, _, _, _, _, _, _, _, _, _, _, _, _, _, _, _⟩ := q8 BK101.out
            go_wp2
            go_ret
            exact qr
          rw [if_neg c32] at H
          obtain ⟨c32b0, c32b1⟩ := qd c32
          obtain rfl := Option.some.inj H
          obtain ⟨_, _, _, _, _, _, _, _, _, _, _, _, _, _, _, _⟩ := q8 BK101.out
          go_wp2
          go_ret
          exact qr
        rw [if_neg c27] at H
        obtain ⟨c27b0, c27b1⟩ := qd c27
        by_cases c35 : a0_0 = 3
        · rw [if_pos c35] at H
          obtain ⟨c35b0, c35b1⟩ := qe c35
          clear c35
          by_cases c36 : a0_1.toList = ([] : List UInt8)
          · rw [if_pos c36] at H
            obtain ⟨c36b0, c36b1⟩ := qe c36
            clear c36
            obtain rfl := Option.some.inj H
            obtain ⟨_, _, _, _, _, _, _, _, _, _, _, _, _, _, _, _⟩ := q8 BK101.out
            go_wp2
            go_ret
            exact qr
          rw [if_neg c36] at H
          obtain ⟨c36b0, c36b1⟩ := qd c36
          by_cases c38 : a0_0 = 1
          · rw [if_pos c38] at H
            obtain ⟨c38b0, c38b1⟩ := qe c38
            clear c38
            obtain rfl := Option.some.inj H
            obtain ⟨_, _, _, _, _, _, _, _, _, _, _, _, _, _, _, _⟩ := q8 BK101.out
            go_wp2
            go_ret
            exact qr
          rw [if_neg c38] at H
          obtain ⟨c38b0, c38b1⟩ := qd c38
          by_cases c40 : a0_0 = 2
          · rw [if_pos c40] at H
            obtain ⟨c40b0, c40b1⟩ := qe c40
            clear c40
            obtain rfl := Option.some.inj H
            obtain ⟨_, _, _, _, _, _, _, _, _, _, _, _, _, _, _, _⟩ := q8 BK101.out
            go_wp2
            go_ret
            exact qr
          rw [if_neg c40] at H
          obtain ⟨c40b0, c40b1⟩ := qd c40
          obtain rfl := Option.some.inj H
          obtain ⟨_, _, _, _, _, _, _, _, _, _, _, _, _, _, _, _⟩ := q8 BK101.out
          go_wp2
          go_ret
          exact qr
        rw [if_neg c35] at H
        obtain ⟨c35b0, c35b1⟩ := qd c35
        by_cases c43 : a0_0 = 5
        · rw [if_pos c43] at H
          obtain ⟨c43b0, c43b1⟩ := qe c43
          clear c43
          by_cases c44 : a0_1.toList = ([] : List UInt8)
          · rw [if_pos c44] at H
            obtain ⟨c44b0, c44b1⟩ := qe c44
            clear c44
            obtain rfl := Option.some.inj H
            obtain ⟨_, _, _, _, _, _, _, _, _, _, _, _, _, _, _, _⟩ := q8 BK101.out
            go_wp2
            go_ret
            exact qr
          rw [if_neg c44] at H
          obtain ⟨c44b0, c44b1⟩ := qd c44
          by_cases c46 : a0_0 = 1
          · rw [if_pos c46] at H
            obtain ⟨c46b0, c46b1⟩ := qe c46
            clear c46
            obtain rfl := Option.some.inj H
            obtain ⟨_, _, _, _, _, _, _, _, _, _, _, _, _, _, _, _⟩ := q8 BK101.out
            go_wp2
            go_ret
            exact qr
          rw [if_neg c46] at H
          obtain ⟨c46b0, c46b1⟩ := qd c46
          by_cases c48 : a0_0 = 2
          · rw [if_pos c48] at H
            obtain ⟨c48b0, c48b1⟩ := qe c48
            clear c48
            obtain rfl := Option.some.inj H
            obtain ⟨_, _, _, _, _, _, _, _, _, _, _, _, _, _, _, _⟩ := q8 BK101.out
            go_wp2
            go_ret
            exact qr
          rw [if_neg c48] at H
          obtain ⟨c48b0, c48b1⟩ := qd c48
          obtain rfl := Option.some.inj H
          obtain ⟨_, _, _, _, _, _, _, _, _, _, _, _, _, _, _, _⟩ := q8 BK101.out
          go_wp2
          go_ret
          exact qr
        rw [if_neg c43] at H
        obtain ⟨c43b0, c43b1⟩ := qd c43
        obtain rfl := Option.some.inj H
        obtain ⟨_, _, _, _, _, _, _, _, _, _, _, _, _, _, _, _⟩ := q8 BK101.out
        go_wp2
        go_ret
        exact qr
end Go.Proofs.YtiaccdaeomaogaaDoor.F
