/- Texts of one claim, slimmed and merged by slim.py. -/
import Derived.Lib.OthersKept
import Derived.Lib.TrimU
import Derived.Test.YtiaccdaeomaogaaDoorR4
import Derived.Test.YtiaccdaeomaogaaDoorR5
import Derived.Test.YtiaccdaeomaogaaDoorR7
import Derived.Test.YtiaccdaeomaogaaDoorR9
import Derived.Test.YtiaccdaeomaogaaDoorR11
import Derived.Test.YtiaccdaeomaogaaDoorR12
import Derived.Test.YtiaccdaeomaogaaDoorR13
import Derived.Test.YtiaccdaeomaogaaDoorR20
import Derived.Test.YtiaccdaeomaogaaDoorR25
import Derived.Test.YtiaccdaeomaogaaDoorR26
import Derived.Test.YtiaccdaeomaogaaDoorR27
import Derived.Test.YtiaccdaeomaogaaDoorR30
import Derived.Test.YtiaccdaeomaogaaDoorR31
import Derived.Test.YtiaccdaeomaogaaDoorR32
namespace Go.Proofs.YtiaccdaeomaogaaDoor.F
open Go.RowKit Go.Proofs.YtiaccdaeomaogaaDoorW.PrintWords Go.Proofs.YtiaccdaeomaogaaDoorW.PrintLast Go.Proofs.YtiaccdaeomaogaaDoorW.PrintMore
attribute [local go_sem] max2_int min2_int max_two min_two max_three min_three max_four min_four   -- for this text's walks alone
set_option linter.unusedVariables false
set_option linter.unusedSimpArgs false
def malthouseref02_Names.f (k : Nat) (a0_0 : Int) (a0_1 : Int) (a0_2 : ByteArray) (l0_3 : List (S34)) : Option (List ByteArray) := (malthouseref02_May.f k a0_0 a0_1 a0_2 l0_3).bind fun t102 => (if t102 = true then ((malthouseref02_names.f k a0_0 a0_1 a0_2 l0_3 ([] : List ByteArray)).bind fun t103 => (some t103)) else (some ([] : List ByteArray)))
set_option maxHeartbeats 8000000 in
set_option maxRecDepth 100000 in
theorem malthouseref02_Names.calls (k : Nat) (a0_0 : Int) (a0_1 : Int) (a0_2 : ByteArray) (A0_3 : Option Addr) (c0_3 : Nat) (l0_3 : List (S34)) (r : List ByteArray) (w : World) (hr0_3 : Kd.C k34 w A0_3 l0_3.length l0_3) (hc0_3 : l0_3.length ≤ c0_3) (h : malthouseref02_Names.f k a0_0 a0_1 a0_2 l0_3 = some r) :
  Calls Tryd.prog 77 #[.agg #[.int .i64 a0_0, .int .i64 a0_1, .string a0_2, .slice A0_3 l0_3.length c0_3]] w fun e w' => ∃ v0_ : Value, e = .returned (v0_) ∧ Kd.V Kd.string 9 w' w.heap.size (fun k_ => (w.heap.size ≤ k_)) v0_ r ∧ Below w.heap.size w w' := by
 have hu34 := Tryd.underlying34
 have HR0_3 := Aside0.mk hr0_3
 have HC0_3 := Aside0.mk hc0_3
 clear hr0_3 hc0_3
 have HB := Aside0.mk (Below.refl w.heap.size w)
 have H : ((malthouseref02_May.f k a0_0 a0_1 a0_2 l0_3).bind fun t102 => (if t102 = true then ((malthouseref02_names.f k a0_0 a0_1 a0_2 l0_3 ([] : List ByteArray)).bind fun t103 => (some t103)) else (some ([] : List ByteArray)))) = some r := h
 clear h
 replace H := qi H
 obtain ⟨t102, A2, H⟩ := H
 by_cases c3 : t102 = true
 ·subst c3
  rw [if_pos rfl] at H
  replace H := qi H
  obtain ⟨t103, A4, H⟩ := H
  obtain rfl := Option.some.inj H
  go_enter Tryd.func77, Tryd.ntmps77
  go_wp2_with (first | ((with_reducible refine gate_dst (N := 1) rfl ?_); refine box_event ?hg (N := 1) ?hd (cs := #[.int .i64 a0_0, .int .i64 a0_1, .string a0_2, .slice A0_3 l0_3.length c0_3]) (t := 34) ?hr ?_; (case hd => rfl); (case hg => rfl); (case hr => first | (go_simp; done) | (go_simp; rfl)); intro gb101 hg w5 hbox hb; have n0_ := qs hb; have n1_ := Aside0.mk (hbox); have n2_ := Aside0.mk ((by rw [hg]; exact (below_size qb) : w.heap.size ≤ gb101)); have n3_ := Aside0.mk ((by rw [hg]; exact (below_size qb) : w.heap.size ≤ gb101)); clear HB; have HB := n0_; have BK101 := n1_; have GW101 := n2_; have GE101 := n3_; clear n0_ n1_ n2_ n3_; clear hb hbox hg; obtain ⟨_, _, _, _, _, _, _, _⟩ := q4 BK101.out) | ((with_reducible refine gate_callee (f := 76) rfl ?_); refine goesL_ (some 5) rfl rfl Tryd.func76 (by kernel_rfl) rfl #[.agg #[.int .i64 a0_0, .int .i64 a0_1, .string a0_2, .slice A0_3 l0_3.length c0_3]] rfl qm ?_; (with_reducible refine (malthouseref02_May.calls k a0_0 a0_1 a0_2 _ _ l0_3 true _ ?side1 ?side2 A2.out).mono ?_); (case side1 => exact qC HR0_3.out); (case side2 => exact HC0_3.out); rintro e w7 ⟨rfl, hb⟩; refine ⟨_, rfl, ?_⟩; have n0_ := qn101 (g := gb101) hb; have n1_ := qs hb; clear BK101; clear HB; have BK101 := n0_; have HB := n1_; clear n0_ n1_; (try clear hb); obtain ⟨_, _, _, _, _, _, _, _⟩ := q4 BK101.out) | ((with_reducible refine gate_callee (f := 109) rfl ?_); refine goesL_ (some 9) rfl rfl Tryd.func109 (by kernel_rfl) rfl #[.agg #[.int .i64 a0_0, .int .i64 a0_1, .string a0_2, .slice A0_3 l0_3.length c0_3], .slice none 0 0] rfl qm ?_; (refine (malthouseref02_names.calls k a0_0 a0_1 a0_2 _ _ l0_3 (fun k_ => False) _ _ ([] : List ByteArray) t103 _ ?side1 ?side2 ?side3 A4.out).mono ?_); (case side1 => exact qC HR0_3.out); (case side2 => exact HC0_3.out); (case side3 => exact Kd.V_nil _ _ _ _ _); rintro e w9 ⟨v104, rfl, ho0, hb⟩; refine ⟨_, rfl, ?_⟩; have n0_ := Aside0.mk (Kd.V_lower (Kd.V_mono (ok' := fun k_ => (w.heap.size ≤ k_) ∧ k_ ≠ gb101) ho0 (fun k_ hk_ => ⟨Or.elim hk_ (fun hs_ => (hs_).elim) (fun hn_ => (Nat.le_trans (below_size qb) hn_)), Or.elim hk_ (fun hs_ => (hs_).elim) (fun hn_ => (Kd.freshB (g := gb101) (o := .cells #[.int .i64 a0_0, .int .i64 a0_1, .string a0_2, .slice A0_3 l0_3.length c0_3] 34 (0, 0)) (by (with_reducible repeat (first | refine blk_drewN ?_ _ | refine blk_drew ?_ | refine blk_alloc ?_ _)); exact BK101.out) k_ hn_))⟩)) (below_size qb)); have n1_ := qn101 (g := gb101) hb; have n2_ := qs hb; clear BK101; clear HB; have HO105 := n0_; have BK101 := n1_; have HB := n2_; clear n0_ n1_ n2_; (try clear hb); (try clear ho0)))
  go_ret
  exact ⟨_, by first | rfl | (simp [errW_none, errW_some] <;> rfl) | (simp [*, errW_none, errW_some] <;> rfl), by (with_reducible repeat (first | apply Kd.V_alloc | apply Kd.V_drewN | apply Kd.V_drew)); exact Kd.V_mono HO105.out (fun _ hk => hk.1), qb⟩
 replace c3 := Bool.eq_false_iff.mpr c3
 subst c3
 rw [if_neg qf] at H
 obtain rfl := Option.some.inj H
 go_enter Tryd.func77, Tryd.ntmps77
 go_wp2_with (first | ((with_reducible refine gate_dst (N := 1) rfl ?_); refine box_event ?hg (N := 1) ?hd (cs := #[.int .i64 a0_0, .int .i64 a0_1, .string a0_2, .slice A0_3 l0_3.length c0_3]) (t := 34) ?hr ?_; (case hd => rfl); (case hg => rfl); (case hr => first | (go_simp; done) | (go_simp; rfl)); intro gb101 hg w10 hbox hb; have n0_ := qs hb; have n1_ := Aside0.mk (hbox); have n2_ := Aside0.mk ((by rw [hg]; exact (below_size qb) : w.heap.size ≤ gb101)); have n3_ := Aside0.mk ((by rw [hg]; exact (below_size qb) : w.heap.size ≤ gb101)); clear HB; have HB := n0_; have BK101 := n1_; have GW101 := n2_; have GE101 := n3_; clear n0_ n1_ n2_ n3_; clear hb hbox hg; obtain ⟨_, _, _, _, _, _, _, _⟩ := q4 BK101.out) | ((with_reducible refine gate_callee (f := 76) rfl ?_); refine goesL_ (some 5) rfl rfl Tryd.func76 (by kernel_rfl) rfl #[.agg #[.int .i64 a0_0, .int .i64 a0_1, .string a0_2, .slice A0_3 l0_3.length c0_3]] rfl qm ?_; (with_reducible refine (malthouseref02_May.calls k a0_0 a0_1 a0_2 _ _ l0_3 false _ ?side1 ?side2 A2.out).mono ?_); (case side1 => exact qC HR0_3.out); (case side2 => exact HC0_3.out); rintro e w12 ⟨rfl, hb⟩; refine ⟨_, rfl, ?_⟩; have n0_ := qn101 (g := gb101) hb; have n1_ := qs hb; clear BK101; clear HB; have BK101 := n0_; have HB := n1_; clear n0_ n1_; (try clear hb)))
 go_ret
 exact ⟨.slice none 0 0, by first | rfl | (simp [errW_none, errW_some] <;> rfl) | (simp [*, errW_none, errW_some] <;> rfl), Kd.R_V (base := 0) (by first | exact Kd.R_nil _ _ _ _ _ | exact Kd.N_nil _ _ _ _ _ | exact Kd.V_nil _ _ _ _ _ | exact Kd.Q_nil _ _ _ _ _ | exact Kd.S_nil _ _ _ _ _), qb⟩
end Go.Proofs.YtiaccdaeomaogaaDoor.F
namespace Go.Proofs.YtiaccdaeomaogaaDoor.F
open Go.RowKit Go.Proofs.YtiaccdaeomaogaaDoorW.PrintWords Go.Proofs.YtiaccdaeomaogaaDoorW.PrintLast Go.Proofs.YtiaccdaeomaogaaDoorW.PrintMore
set_option linter.unusedVariables false
set_option linter.unusedSimpArgs false
theorem ba_ext {a b : ByteArray} (h : a.toList = b.toList) : a = b := by
  rw [Lib.toList_data, Lib.toList_data] at h
  cases a; cases b
  rename_i d e
  have : d = e := Array.toList_inj.mp h
  rw [this]
inductive NmIn : S34 → ByteArray → Prop
  | here (x : S34) (h : x.f0 = 1) : NmIn x x.f2
  | kid (x a : S34) (nm : ByteArray) (h : x.f0 ≠ 1) (ha : a ∈ x.f3) (hn : NmIn a nm) : NmIn x nm
theorem NmIn.inv {x : S34} {y : ByteArray} (h : NmIn x y) : (x.f0 = 1 ∧ y = x.f2) ∨ (x.f0 ≠ 1 ∧ ∃ a ∈ x.f3, NmIn a y) := by
  cases h with
  | here _ h => exact .inl ⟨h, rfl⟩
  | kid _ a _ h ha hn => exact .inr ⟨h, a, ha, hn⟩
theorem names_mem : ∀ k, (∀ (x : S34) acc l, namesF k x.f0 x.f2 x.f3 acc = some l → ∀ y, y ∈ l ↔ y ∈ acc ∨ NmIn x y) ∧ (∀ ks acc l, namesL k ks acc = some l → ∀ y, y ∈ l ↔ y ∈ acc ∨ ∃ a ∈ ks, NmIn a y)
  | 0 => ⟨fun _ _ _ h => by simp [namesF] at h, fun _ _ _ h => by simp [namesL] at h⟩
  | k + 1 => by
    obtain ⟨h1, h2⟩ := names_mem k
    refine ⟨fun x acc l h y => ?_, fun ks acc l h y => ?_⟩
    · rw [namesF] at h
      by_cases hx : x.f0 = 1
      · rw [if_pos hx] at h
        split at h
        · obtain rfl := Option.some.inj h
          rw [List.mem_append, List.mem_singleton]
          constructor
          · rintro (h | rfl)
            · exact .inl h
            · exact .inr (NmIn.here x hx)
          · rintro (h | h)
            · exact .inl h
            · rcases h.inv with ⟨_, e⟩ | ⟨h, _⟩
              · exact .inr e
              · exact absurd hx h
        · cases h
      · rw [if_neg hx] at h
        rw [h2 _ _ _ h y]
        constructor
        · rintro (h | ⟨a, ha, hn⟩)
          · exact .inl h
          · exact .inr (NmIn.kid x a y hx ha hn)
        · rintro (h | h)
          · exact .inl h
          · rcases h.inv with ⟨h, _⟩ | ⟨_, a, ha, hn⟩
            · exact absurd h hx
            · exact .inr ⟨a, ha, hn⟩
    · cases ks with
      | nil =>
        rw [namesL] at h
        obtain rfl := Option.some.inj h
        simp
      | cons x xs =>
        rw [namesL] at h
        obtain ⟨m, hm, h⟩ := Option.bind_eq_some_iff.mp h
        rw [h2 _ _ _ h y, h1 x _ _ hm y]
        constructor
        · rintro ((h | h) | ⟨a, ha, hn⟩)
          · exact .inl h
          · exact .inr ⟨x, .head _, h⟩
          · exact .inr ⟨a, .tail _ ha, hn⟩
        · rintro (h | ⟨a, ha, hn⟩)
          · exact .inl (.inl h)
          · rcases List.mem_cons.mp ha with rfl | ha
            · exact .inl (.inr hn)
            · exact .inr ⟨a, ha, hn⟩
theorem compactUpTo_mem {α : Type} [Inhabited α] [DecidableEq α] (d : Array α) (x : α) : ∀ m, x ∈ Lib.compactUpTo d m ↔ ∃ j, j < m ∧ d[j]! = x
  | 0 => by simp [Lib.compactUpTo]
  | m + 1 => by
    rw [Lib.compactUpTo_succ, List.mem_append, compactUpTo_mem d x m]
    constructor
    · rintro (⟨j, hj, e⟩ | h)
      · exact ⟨j, by omega, e⟩
      · split at h
        · exact ⟨m, by omega, (List.mem_singleton.mp h).symm⟩
        · cases h
    · rintro ⟨j, hj, e⟩
      by_cases hjm : j < m
      · exact .inl ⟨j, hjm, e⟩
      · obtain rfl : j = m := by omega
        by_cases hk : Lib.keeps d j = true
        · rw [if_pos hk]; exact .inr (by rw [e]; simp)
        · by_cases h0 : j = 0
          · subst h0; exact absurd (Lib.keeps_lt_one d 0 (by omega)) hk
          · by_cases hd : d[j]! = d[j - 1]!
            · exact .inl ⟨j - 1, by omega, by rw [← hd]; exact e⟩
            · exact absurd (Lib.keeps_pos hd) hk
theorem compact_mem {α : Type} [Inhabited α] [DecidableEq α] (zs : List α) (x : α) : x ∈ Lib.compact zs ↔ x ∈ zs := by
  unfold Lib.compact
  rw [compactUpTo_mem, List.mem_iff_getElem]
  constructor
  · rintro ⟨j, hj, e⟩
    exact ⟨j, hj, by rw [← e]; simp [hj]⟩
  · rintro ⟨j, hj, e⟩
    exact ⟨j, hj, by rw [← e]; simp [hj]⟩
theorem namesOut_mem (l : List ByteArray) (y : ByteArray) : y ∈ namesOut l ↔ y ∈ l := by
  unfold namesOut ofL cmpL srtL
  rw [List.mem_map]
  constructor
  · rintro ⟨b, hb, rfl⟩
    rw [compact_mem, List.mem_mergeSort, List.mem_map] at hb
    obtain ⟨z, hz, rfl⟩ := hb
    have : (⟨z.data.toList.toArray⟩ : ByteArray) = z := by cases z; simp
    rw [this]; exact hz
  · intro h
    refine ⟨y.data.toList, ?_, by cases y; simp⟩
    rw [compact_mem, List.mem_mergeSort, List.mem_map]
    exact ⟨y, h, rfl⟩
theorem namesA_tot {x : S34} (h : OkE x) : ∃ l, Tot (fun k => expr_Names.f k x.f0 x.f1 x.f2 x.f3) l ∧ l.length ≤ 65 ∧ ∀ y, y ∈ l ↔ mayP x = true ∧ NmIn x y := by
  obtain ⟨b, hb, nb⟩ := May_tot h
  have em : mayP x = b := Tot.uniq (may_both h).1 hb
  rw [em]
  cases b with
  | true =>
    obtain ⟨l, hl, ll⟩ := (nb rfl).1 [] (by simp)
    simp only [List.length_nil, Int.natCast_zero, Int.zero_add] at ll
    refine ⟨namesOut l, Tot.bind hb ?_, ?_, fun y => ?_⟩
    · simp only [if_true]
      exact Tot.bind hl (by simp only [if_pos (show l.length < 8796093022208 by omega)]; exact Tot.const _)
    · rw [namesOut_len]
      have h1 : (cmpL l).length ≤ (srtL l).length := Lib.compact_length_le (srtL l)
      have h2 : (srtL l).length = l.length := by unfold srtL; rw [List.length_mergeSort, List.length_map]
      omega
    · obtain ⟨K, hK⟩ := hl
      rw [namesOut_mem, (names_mem K).1 x [] l (hK K (Nat.le_refl _)) y]
      simp
  | false => exact ⟨[], Tot.bind hb (by simp only [if_neg (show ¬ (false = true) by decide)]; exact Tot.const _), by simp, fun y => by simp⟩
theorem docNames_l1 (x : S34) (l : List ByteArray) (hl : l.length < 1000) : ∀ (n i : Nat) (out : List ByteArray) (done : Bool), i + n = l.length → out.length ≤ i + (if done = true then 1 else 0) → (∀ y, y ∈ out ↔ y ∈ l.take i ∨ (done = true ∧ y = x.f2)) →
    ∃ r, Tot (fun k => malthouseref02_names.l1 k l out done (i : Int) x.f0 x.f1 x.f2 x.f3) r ∧ r.length ≤ l.length + 1 ∧ ∀ y, y ∈ r ↔ y ∈ l ∨ y = x.f2
  | 0, i, out, done, e, ho, hm => by
    have ho1 : out.length ≤ i + 1 := by cases done <;> simp at ho <;> omega
    rw [List.take_of_length_le (by omega)] at hm
    cases done with
    | true => exact ⟨out, Tot.succ (by simp only [malthouseref02_names.l1, if_neg (show ¬ (i : Int) < (l.length : Int) by omega), if_true]; exact Tot.const _), by omega, fun y => by rw [hm y]; simp⟩
    | false => exact ⟨out ++ [x.f2], Tot.succ (by simp only [malthouseref02_names.l1, if_neg (show ¬ (i : Int) < (l.length : Int) by omega), ff, if_pos (show out.length < 8796093022208 by omega)]; exact Tot.const _), by simp at ho ⊢; omega, fun y => by rw [List.mem_append, hm y]; simp⟩
  | n + 1, i, out, done, e, ho, hm => by
    have ho1 : out.length ≤ i + 1 := by cases done <;> simp at ho <;> omega
    have hi : i < l.length := by omega
    have ht : l.take (i + 1) = l.take i ++ [rdOf ByteArray.empty l (i : Int)] := by
      rw [List.take_succ_eq_append_getElem hi]
      unfold rdOf; rw [Int.toNat_natCast, List.getD, List.getElem?_eq_getElem hi]; rfl
    have hmem : rdOf ByteArray.empty l (i : Int) ∈ l := by
      unfold rdOf; rw [Int.toNat_natCast, List.getD, List.getElem?_eq_getElem hi]; exact List.getElem_mem hi
    by_cases hq : (rdOf ByteArray.empty l (i : Int)).toList = x.f2.toList
    · refine ⟨l, Tot.succ (by simp only [malthouseref02_names.l1, if_pos (show (i : Int) < (l.length : Int) by omega), if_pos (show 0 ≤ (i : Int) by omega), if_pos hq]; exact Tot.const _), by omega, fun y => ?_⟩
      constructor
      · exact .inl
      · rintro (h | rfl)
        · exact h
        · rw [← ba_ext hq]; exact hmem
    · cases done with
      | true =>
        obtain ⟨r, hr, rl, rm⟩ := docNames_l1 x l hl n (i + 1) (out ++ [rdOf ByteArray.empty l (i : Int)]) true (by omega) (by simp at ho ⊢; omega) (fun y => by rw [List.mem_append, hm y, ht, List.mem_append]; simp only [List.mem_singleton, true_and]; constructor <;> intro h <;> rcases h with (h | h) | h <;> simp [h])
        exact ⟨r, Tot.succ (by simp only [malthouseref02_names.l1, if_pos (show (i : Int) < (l.length : Int) by omega), if_pos (show 0 ≤ (i : Int) by omega), if_neg hq, if_true, if_pos (show out.length < 8796093022208 by omega), w1 (show 0 ≤ (i : Int) by omega) (show (i : Int) < 9223372036854775807 by omega)]; exact hr), rl, rm⟩
      | false =>
        by_cases hb : Op.bytesLess x.f2.toList (rdOf ByteArray.empty l (i : Int)).toList = true
        · obtain ⟨r, hr, rl, rm⟩ := docNames_l1 x l hl n (i + 1) (out ++ [x.f2] ++ [rdOf ByteArray.empty l (i : Int)]) true (by omega) (by simp at ho ⊢; omega) (fun y => by rw [List.mem_append, List.mem_append, hm y, ht, List.mem_append]; simp only [List.mem_singleton, true_and, Bool.false_eq_true, false_and, or_false]; constructor <;> intro h <;> rcases h with (h | h) | h <;> simp [h])
          exact ⟨r, Tot.succ (by simp only [malthouseref02_names.l1, if_pos (show (i : Int) < (l.length : Int) by omega), if_pos (show 0 ≤ (i : Int) by omega), if_neg hq, ff, if_pos hb, if_pos (show out.length < 8796093022208 by omega), Option.bind_some, if_pos (show (out ++ [x.f2]).length < 8796093022208 by simp; omega), w1 (show 0 ≤ (i : Int) by omega) (show (i : Int) < 9223372036854775807 by omega)]; exact hr), rl, rm⟩
        · obtain ⟨r, hr, rl, rm⟩ := docNames_l1 x l hl n (i + 1) (out ++ [rdOf ByteArray.empty l (i : Int)]) false (by omega) (by simp at ho ⊢; omega) (fun y => by rw [List.mem_append, hm y, ht, List.mem_append]; simp only [List.mem_singleton, Bool.false_eq_true, false_and, or_false])
          exact ⟨r, Tot.succ (by simp only [malthouseref02_names.l1, if_pos (show (i : Int) < (l.length : Int) by omega), if_pos (show 0 ≤ (i : Int) by omega), if_neg hq, ff, if_neg hb, if_pos (show out.length < 8796093022208 by omega), w1 (show 0 ≤ (i : Int) by omega) (show (i : Int) < 9223372036854775807 by omega)]; exact hr), rl, rm⟩
theorem docNames_kids (x : S34) (hx : x.f0 ≠ 1) (hk : ∀ a ∈ x.f3, ∀ l : List ByteArray, l.length + szE a < 900 → ∃ r, Tot (fun k => malthouseref02_names.f k a.f0 a.f1 a.f2 a.f3 l) r ∧ r.length ≤ l.length + szE a ∧ ∀ y, y ∈ r ↔ y ∈ l ∨ NmIn a y) (hlen : x.f3.length < 1000) :
    ∀ (n i : Nat) (l : List ByteArray), i + n = x.f3.length → l.length + szL (x.f3.drop i) < 900 → ∃ r, Tot (fun k => malthouseref02_names.l0 k l (i : Int) x.f0 x.f1 x.f2 x.f3) r ∧ r.length ≤ l.length + szL (x.f3.drop i) ∧ ∀ y, y ∈ r ↔ y ∈ l ∨ ∃ a ∈ x.f3.drop i, NmIn a y
  | 0, i, l, e, hs => by
    refine ⟨l, Tot.succ (by simp only [malthouseref02_names.l0, if_neg (show ¬ (i : Int) < (x.f3.length : Int) by omega), if_neg hx]; exact Tot.const _), by omega, fun y => ?_⟩
    rw [List.drop_eq_nil_of_le (by omega)]; simp
  | n + 1, i, l, e, hs => by
    have hi : i < x.f3.length := by omega
    rw [drop34 hi, szL] at hs
    obtain ⟨r, hr, rl, rm⟩ := hk _ (rd_mem hi) l (by omega)
    obtain ⟨q, hq, ql, qm⟩ := docNames_kids x hx hk hlen n (i + 1) r (by omega) (by omega)
    refine ⟨q, Tot.succ ?_, by rw [drop34 hi, szL]; omega, fun y => ?_⟩
    · simp only [malthouseref02_names.l0, if_pos (show (i : Int) < (x.f3.length : Int) by omega), if_pos (show 0 ≤ (i : Int) by omega), w1 (show 0 ≤ (i : Int) by omega) (show (i : Int) < 9223372036854775807 by omega)]
      exact Tot.bind hr hq
    · rw [qm y, rm y, drop34 hi]
      constructor
      · rintro ((h | h) | ⟨a, ha, hn⟩)
        · exact .inl h
        · exact .inr ⟨_, .head _, h⟩
        · exact .inr ⟨a, .tail _ ha, hn⟩
      · rintro (h | ⟨a, ha, hn⟩)
        · exact .inl (.inl h)
        · rcases List.mem_cons.mp ha with rfl | ha
          · exact .inl (.inr hn)
          · exact .inr ⟨a, ha, hn⟩
theorem docNames_tot {x : S34} (h : WfE x) : ∀ l : List ByteArray, l.length + szE x < 900 → ∃ r, Tot (fun k => malthouseref02_names.f k x.f0 x.f1 x.f2 x.f3 l) r ∧ r.length ≤ l.length + szE x ∧ ∀ y, y ∈ r ↔ y ∈ l ∨ NmIn x y := by
  have K : ∀ x : S34, x.f0 ≠ 1 → x.f3.length < 1000 → (∀ a ∈ x.f3, ∀ l : List ByteArray, l.length + szE a < 900 → ∃ r, Tot (fun k => malthouseref02_names.f k a.f0 a.f1 a.f2 a.f3 l) r ∧ r.length ≤ l.length + szE a ∧ ∀ y, y ∈ r ↔ y ∈ l ∨ NmIn a y) → ∀ l : List ByteArray, l.length + szE x < 900 → ∃ r, Tot (fun k => malthouseref02_names.f k x.f0 x.f1 x.f2 x.f3 l) r ∧ r.length ≤ l.length + szE x ∧ ∀ y, y ∈ r ↔ y ∈ l ∨ NmIn x y := fun x hx hlen hk l hl => by
    rw [szE_eq] at hl
    obtain ⟨r, hr, rl, rm⟩ := docNames_kids x hx hk hlen x.f3.length 0 l (by omega) (by rw [List.drop_zero]; omega)
    rw [List.drop_zero] at rl rm
    refine ⟨r, Tot.succ (by simp only [malthouseref02_names.f]; exact hr), by rw [szE_eq]; omega, fun y => ?_⟩
    rw [rm y]
    constructor
    · rintro (h | ⟨a, ha, hn⟩)
      · exact .inl h
      · exact .inr (NmIn.kid x a y hx ha hn)
    · rintro (h | h)
      · exact .inl h
      · rcases h.inv with ⟨h, _⟩ | ⟨_, a, ha, hn⟩
        · exact absurd h hx
        · exact .inr ⟨a, ha, hn⟩
  induction h with
  | num x h hk => exact K x (by omega) (by rw [hk]; simp) (fun a ha => by rw [hk] at ha; cases ha)
  | name x h hk hn =>
    intro l hl
    rw [szE_eq, hk] at hl
    simp only [szL] at hl
    obtain ⟨r, hr, rl, rm⟩ := docNames_l1 x l (by omega) l.length 0 [] false (by omega) (by simp) (fun y => by simp)
    refine ⟨r, Tot.succ ?_, by rw [szE_eq, hk]; simp only [szL]; omega, fun y => ?_⟩
    · simp only [malthouseref02_names.f]
      refine Tot.succ ?_
      simp only [malthouseref02_names.l0, if_neg (show ¬ (0 : Int) < (x.f3.length : Int) by rw [hk]; simp), if_pos h]
      exact hr
    · rw [rm y]
      constructor
      · rintro (h1 | rfl)
        · exact .inl h1
        · exact .inr (NmIn.here x h)
      · rintro (h1 | h1)
        · exact .inl h1
        · rcases h1.inv with ⟨_, e⟩ | ⟨h2, _⟩
          · exact .inr e
          · exact absurd h h2
  | one x a h hk ha ih => exact K x (by omega) (by rw [hk]; simp) (fun b hb => by rw [hk] at hb; rw [List.mem_singleton.mp hb]; exact ih)
  | two x a b h hk ha hb iha ihb => exact K x (by omega) (by rw [hk]; simp) (fun c hc => by
      rw [hk] at hc
      rcases List.mem_cons.mp hc with rfl | hc
      · exact iha
      · rw [List.mem_singleton.mp hc]; exact ihb)
theorem namesB_tot {x : S34} (h : OkE x) : ∃ l, Tot (fun k => malthouseref02_Names.f k x.f0 x.f1 x.f2 x.f3) l ∧ l.length ≤ 65 ∧ ∀ y, y ∈ l ↔ mayP x = true ∧ NmIn x y := by
  obtain ⟨_, h2, h3⟩ := may_both h
  cases hm : mayP x with
  | true =>
    rw [hm] at h2
    obtain ⟨w, z⟩ := h3 hm
    obtain ⟨r, hr, rl, rm⟩ := docNames_tot w [] (by simp; omega)
    simp at rl
    refine ⟨r, Tot.bind h2 ?_, by omega, fun y => by rw [rm y]; simp⟩
    simp only [if_true]
    exact Tot.bind hr (Tot.const _)
  | false =>
    rw [hm] at h2
    exact ⟨[], Tot.bind h2 (by simp only [ff]; exact Tot.const _), by simp, fun y => by simp⟩
def inL (l : List ByteArray) (x : ByteArray) : Bool := decide (ixF l x 0 ≥ 0)
theorem hasA (l : List ByteArray) (x : ByteArray) (hl : l.length < 9223372036854775807) : Tot (fun k => slices_Contains_string_string.f k l x) (inL l x) := Contains_tot l x hl
theorem placeB (l : List ByteArray) (x : ByteArray) (hl : l.length < 9223372036854775807) : Tot (fun k => malthouseref09_Place.f k l x) (ixF l x 0) := by
  have L : ∀ (n i : Nat), i + n = l.length → Tot (fun k => malthouseref09_Place.l0 k l x (i : Int)) (ixF (l.drop i) x (i : Int)) := by
    intro n
    induction n with
    | zero =>
      intro i e
      refine Tot.succ ?_
      simp only [malthouseref09_Place.l0]
      rw [List.drop_eq_nil_of_le (by omega)]
      simp only [if_neg (show ¬ (i : Int) < (l.length : Int) by omega), ixF]
      exact Tot.const _
    | succ n ih =>
      intro i e
      refine Tot.succ ?_
      simp only [malthouseref09_Place.l0]
      rw [drop_rd ByteArray.empty (show i < l.length by omega)]
      simp only [if_pos (show (i : Int) < (l.length : Int) by omega), if_pos (show 0 ≤ (i : Int) by omega), ixF]
      by_cases h : (rdOf ByteArray.empty l (i : Int)).toList = x.toList
      · simp only [if_pos h, if_pos h.symm]; exact Tot.const _
      · simp only [if_neg h, if_neg (fun e : x.toList = _ => h e.symm), w1 (show 0 ≤ (i : Int) by omega) (show (i : Int) < 9223372036854775807 by omega)]
        exact ih (i + 1) (by omega)
  exact L l.length 0 (by omega)
def blankB (e : S34) : Bool := decide (e.f0 = 0 ∧ e.f1 = 0 ∧ e.f2.toList = ([] : List UInt8) ∧ (e.f3.length : Int) = 0)
open Classical in
noncomputable def knownP (cells : List ByteArray) (x : S34) : Bool := if ∀ y, mayP x = true ∧ NmIn x y → inL cells y = true then true else false
theorem known_all {cells : List ByteArray} {x : S34} {l : List ByteArray} (h : ∀ y, y ∈ l ↔ mayP x = true ∧ NmIn x y) : knownP cells x = l.all (inL cells) := by
  unfold knownP
  by_cases c : ∀ y, mayP x = true ∧ NmIn x y → inL cells y = true
  · rw [if_pos c]
    exact (List.all_eq_true.mpr fun y hy => c y ((h y).mp hy)).symm
  · rw [if_neg c]
    cases e : l.all (inL cells) with
    | false => rfl
    | true => exact absurd (fun y hy => List.all_eq_true.mp e y ((h y).mpr hy)) c
end Go.Proofs.YtiaccdaeomaogaaDoor.F
