/- Texts of one claim, slimmed and merged by slim.py. -/
import Derived.Lib.LazyBuf
import Derived.OwnWalk
import Derived.Test.YtiaccdaeomaogaaDoorRL2
import Derived.Test.YtiaccdaeomaogaaDoorRL3
import Derived.Test.YtiaccdaeomaogaaDoorRL4
import Derived.Test.YtiaccdaeomaogaaDoorRL5
import Derived.Test.YtiaccdaeomaogaaDoorRL6
namespace Go.Proofs.YtiaccdaeomaogaaDoor.F
open Go.RowKit Go.Proofs.YtiaccdaeomaogaaDoorW.PrintWords Go.Proofs.YtiaccdaeomaogaaDoorW.PrintLast Go.Proofs.YtiaccdaeomaogaaDoorW.PrintMore
attribute [local go_sem] max2_int min2_int max_two min_two max_three min_three max_four min_four   -- for this text's walks alone
set_option linter.unusedVariables false
set_option linter.unusedSimpArgs false
theorem info4c : (Tryd.prog.info? 4).map (fun i => (i.zero, i.size, i.bytes)) = some (some (.bool false), 1, 1) := by kernel_rfl
def slices_Clone_bool_bool.f (l0 : List Bool) : Option (List Bool) := if l0.length < 1000000000 then some l0 else none
set_option maxHeartbeats 4000000 in
set_option maxRecDepth 100000 in
theorem slices_Clone_bool_bool.calls (A0 : Option Addr) (c0 : Nat) (l0 : List Bool) (r : List Bool) (w : World) (hr0 : Kd.C Kd.bool w A0 l0.length l0) (hc0 : l0.length ≤ c0) (h : slices_Clone_bool_bool.f l0 = some r) :
    Calls Tryd.prog 65 #[.slice A0 l0.length c0] w fun e w' => ∃ v0_ : Value, e = .returned (v0_) ∧ Kd.R Kd.bool 4 w' w.heap.size (fun _ => True) v0_ r ∧ Below w.heap.size w w' := by
  unfold slices_Clone_bool_bool.f at h
  by_cases hl : l0.length < 1000000000
  case neg => rw [if_neg hl] at h; cases h
  rw [if_pos hl] at h
  obtain rfl := Option.some.inj h
  have heq := fun (w' : World) => Go.run_eql_slice_nil (P := Tryd.prog) w' 46 4 A0 l0.length c0 Tryd.underlying46
  cases A0 with
  | none =>
    have h0 : l0 = [] := by
      rcases Nat.eq_zero_or_pos l0.length with h | h
      · exact List.eq_nil_of_length_eq_zero h
      · obtain ⟨ad, e, _⟩ := hr0.2.2 h; cases e
    subst h0
    simp only [List.length_nil] at heq
    clear hr0 hl hc0 h
    go_enter Tryd.func65, Tryd.ntmps65
    go_wp2
    go_ret
    exact ⟨_, rfl, Kd.R_nil _ _ _ _ _, by repeat (first | exact Below.refl _ _ | apply pw_below_drewN | apply below_drew1)⟩
  | some ad =>
    have HR := Aside0.mk hr0
    have HL := Aside0.mk hl
    clear hr0 hl hc0 h
    go_enter Tryd.func65, Tryd.ntmps65
    go_wp2_with (first | ((with_reducible refine gate_builtin (b := .append) (xs := #[.tmp 5, .tmp 6]) rfl ?_); at_builtin; refine Kd.R_append_row Value.bool false (h1 := fun _ => rfl) (w0 := w) w.heap.size rfl (.tmp 5) (.tmp 6) 46 4 (.bool false) 1 rfl Tryd.underlying46 info4c rfl (by decide) (.slice (some ⟨w.heap.size, 0, none⟩) 0 0) [] l0 (some ad) l0.length c0 (fun _ => True) rfl rfl (fun _ _ => trivial) (Kd.R_of_own (own_lit_of (enc := Value.bool) w w.heap.size 4 [] (Nat.le_refl _) (by simp)) (fun _ _ => trivial)) (Kd.C_alloc HR.out _) (below_alloc (Below.refl _ w) _) (below_size (below_alloc (Below.refl _ w) _)) (by have := HL.out; simp; omega) ?_; intro v1 w1 ho hb hg hat; have ho2 : Kd.R Kd.bool 4 w1 w.heap.size (fun _ => True) v1 l0 := (by have h9 := ho; rw [List.nil_append] at h9; exact h9); have HO1 := Aside0.mk ho2; have HB1 := Aside0.mk hb; clear ho ho2 hb hg hat))
    go_ret
    exact ⟨_, rfl, HO1.out, HB1.out⟩
end Go.Proofs.YtiaccdaeomaogaaDoor.F
namespace Go.Proofs.YtiaccdaeomaogaaDoor.F
open Go.RowKit Go.Proofs.YtiaccdaeomaogaaDoorW.PrintWords Go.Proofs.YtiaccdaeomaogaaDoorW.PrintLast Go.Proofs.YtiaccdaeomaogaaDoorW.PrintMore
set_option linter.unusedVariables false
set_option linter.unusedSimpArgs false
def idxF (k : Nat) (nm : List ByteArray) (bs : List Bool) (name : ByteArray) : Option Int := (slices_Index_string_string.f k nm name).bind fun i => if 0 ≤ i ∧ i < (bs.length : Int) then some i else none
theorem idxF_some {k : Nat} {nm : List ByteArray} {bs : List Bool} {name : ByteArray} {i : Int} (h : idxF k nm bs name = some i) : slices_Index_string_string.f k nm name = some i ∧ 0 ≤ i ∧ i < (bs.length : Int) := by
 unfold idxF at h
 obtain ⟨j, hj, h⟩ := Option.bind_eq_some_iff.mp h
 by_cases hc : 0 ≤ j ∧ j < (bs.length : Int)
 ·rw [if_pos hc] at h
  obtain rfl := Option.some.inj h
  exact ⟨hj, hc⟩
 ·rw [if_neg hc] at h; cases h
theorem idxF_mono (k : Nat) (nm : List ByteArray) (bs : List Bool) (name : ByteArray) : LeO (idxF k nm bs name) (idxF (k + 1) nm bs name) := LeO.bind (slices_Index_string_string.mono _ _ _) (fun _ => LeO.refl _)
def insF (k : Nat) (nm : List ByteArray) (bs : List Bool) (en : List S69) (x : S40) (st : List Bool) : Option (List Bool) :=
  if st.length < 1000000 then
    (if x.f0 = 0 then (idxF k nm bs x.f1).bind fun i => some (st ++ [rdOf false bs i])
    else if x.f0 = 1 then (idxF k nm bs x.f1).bind fun i => some (st ++ [!rdOf false bs i])
    else if x.f0 = 2 then (expr_Eval.f k x.f2.f0 x.f2.f1 x.f2.f2 x.f2.f3 en).bind fun p => some (st ++ [p.2 == 0 && !(p.1 == 0)])
    else if (st.length : Int) - 1 < 0 then none
    else if x.f0 = 3 then (if rdOf false st ((st.length : Int) - 1) = true then (idxF k nm bs x.f1).bind fun i => some (st.set ((st.length : Int) - 1).toNat (rdOf false bs i)) else some (st.set ((st.length : Int) - 1).toNat false))
    else if x.f0 = 4 then (if rdOf false st ((st.length : Int) - 1) = true then (idxF k nm bs x.f1).bind fun i => some (st.set ((st.length : Int) - 1).toNat (!rdOf false bs i)) else some (st.set ((st.length : Int) - 1).toNat false))
    else if x.f0 = 5 then (if rdOf false st ((st.length : Int) - 1) = true then some (st.set ((st.length : Int) - 1).toNat true) else (idxF k nm bs x.f1).bind fun i => some (st.set ((st.length : Int) - 1).toNat (rdOf false bs i)))
    else if x.f0 = 6 then (if rdOf false st ((st.length : Int) - 1) = true then some (st.set ((st.length : Int) - 1).toNat true) else (idxF k nm bs x.f1).bind fun i => some (st.set ((st.length : Int) - 1).toNat (!rdOf false bs i)))
    else if x.f0 = 9 then some (st.set ((st.length : Int) - 1).toNat (!rdOf false st ((st.length : Int) - 1)))
    else if (st.length : Int) - 1 < 1 then none
    else if x.f0 = 7 then some (st.take ((st.length : Int) - 1 - 1).toNat ++ [rdOf false st ((st.length : Int) - 1 - 1) && rdOf false st ((st.length : Int) - 1)])
    else if x.f0 = 8 then some (st.take ((st.length : Int) - 1 - 1).toNat ++ [rdOf false st ((st.length : Int) - 1 - 1) || rdOf false st ((st.length : Int) - 1)])
    else none)
  else none
theorem insF_mono (k : Nat) (nm : List ByteArray) (bs : List Bool) (en : List S69) (x : S40) (st : List Bool) : LeO (insF k nm bs en x st) (insF (k + 1) nm bs en x st) := by
  unfold insF
  repeat' first
    | exact LeO.refl _
    | exact idxF_mono _ _ _ _
    | exact expr_Eval.mono _ _ _ _ _ _
    | refine LeO.ite ?_ ?_
    | refine LeO.bind ?_ (fun _ => ?_)
theorem do_calls (k : Nat) (W w : World) (g : Nat) (nm : List ByteArray) (bs : List Bool) (en : List S69) (st : List Bool) (AN : Option Addr) (cN : Nat) (AB : Option Addr) (cB : Nat) (AE : Option Addr) (cE : Nat) (AS : Option Addr) (cS : Nat) (x : S40) (AX : Option Addr) (cX : Nat) (h : Mach W w g nm bs en st AN cN AB cB AE cE AS cS) (hks : Kd.C k34 W AX x.f2.f3.length x.f2.f3) (hkc : x.f2.f3.length ≤ cX) (hT : UT W) (st' : List Bool) (hi : insF k nm bs en x st = some st') :
  Calls Tryd.prog 67 #[.pointer (some ⟨g, 0, none⟩), .agg #[.int .i64 x.f0, .string x.f1, .int .i64 x.f2.f0, .int .i64 x.f2.f1, .string x.f2.f2, .slice AX x.f2.f3.length cX]] w (DoPost W w g nm bs en AN cN AB cB AE cE st') := by
 unfold insF at hi
 by_cases hl : st.length < 1000000
 case neg => rw [if_neg hl] at hi; cases hi
 rw [if_pos hl] at hi
 by_cases o0 : x.f0 = 0
 ·rw [if_pos o0] at hi
  obtain ⟨i, hx, hi⟩ := Option.bind_eq_some_iff.mp hi
  obtain ⟨h1, h2, h3⟩ := idxF_some hx
  obtain rfl := Option.some.inj hi
  rw [o0]
  exact do_ld0 W w g nm bs en st AN cN AB cB AE cE AS cS _ _ _ _ AX _ cX h k i h1 h2 h3 hl
 rw [if_neg o0] at hi
 by_cases o1 : x.f0 = 1
 ·rw [if_pos o1] at hi
  obtain ⟨i, hx, hi⟩ := Option.bind_eq_some_iff.mp hi
  obtain ⟨h1, h2, h3⟩ := idxF_some hx
  obtain rfl := Option.some.inj hi
  rw [o1]
  exact do_ld1 W w g nm bs en st AN cN AB cB AE cE AS cS _ _ _ _ AX _ cX h k i h1 h2 h3 hl
 rw [if_neg o1] at hi
 by_cases o2 : x.f0 = 2
 ·rw [if_pos o2] at hi
  obtain ⟨⟨n, f⟩, hx, hi⟩ := Option.bind_eq_some_iff.mp hi
  obtain rfl := Option.some.inj hi
  rw [o2]
  by_cases hf : f = 0
  ·subst hf
   by_cases hn : n = 0
   ·subst hn
    exact do_cmp_zero W w g nm bs en st AN cN AB cB AE cE AS cS _ _ _ _ AX _ cX h _ rfl hks hkc hT k hx hl
   ·have e : ((0 : Int) == 0 && !(n == 0)) = true := by simp [hn]
    rw [show ((n, (0 : Int)).2 == 0 && !((n, (0 : Int)).1 == 0)) = true from e]
    exact do_cmp_one W w g nm bs en st AN cN AB cB AE cE AS cS _ _ _ _ AX _ cX h _ rfl hks hkc hT k n hx hn hl
  ·have e : (f == 0 && !(n == 0)) = false := by simp [hf]
   rw [show ((n, f).2 == 0 && !((n, f).1 == 0)) = false from e]
   exact do_cmp_err W w g nm bs en st AN cN AB cB AE cE AS cS _ _ _ _ AX _ cX h _ rfl hks hkc hT k n f hx hf hl
 rw [if_neg o2] at hi
 by_cases hL : (st.length : Int) - 1 < 0
 ·rw [if_pos hL] at hi; cases hi
 rw [if_neg hL] at hi
 have h0 : 0 ≤ (st.length : Int) - 1 := by omega
 by_cases o3 : x.f0 = 3
 ·rw [if_pos o3] at hi
  rw [o3]
  by_cases ht : rdOf false st ((st.length : Int) - 1) = true
  ·rw [if_pos ht] at hi
   obtain ⟨i, hx, hi⟩ := Option.bind_eq_some_iff.mp hi
   obtain ⟨h1, h2, h3⟩ := idxF_some hx
   obtain rfl := Option.some.inj hi
   exact do_and3on W w g nm bs en st AN cN AB cB AE cE AS cS _ _ _ _ AX _ cX h _ rfl h0 ht k i h1 h2 h3
  ·rw [if_neg ht] at hi
   obtain rfl := Option.some.inj hi
   exact do_and3off W w g nm bs en st AN cN AB cB AE cE AS cS _ _ _ _ AX _ cX h _ rfl h0 (Bool.eq_false_iff.mpr ht)
 rw [if_neg o3] at hi
 by_cases o4 : x.f0 = 4
 ·rw [if_pos o4] at hi
  rw [o4]
  by_cases ht : rdOf false st ((st.length : Int) - 1) = true
  ·rw [if_pos ht] at hi
   obtain ⟨i, hx, hi⟩ := Option.bind_eq_some_iff.mp hi
   obtain ⟨h1, h2, h3⟩ := idxF_some hx
   obtain rfl := Option.some.inj hi
   exact do_and4on W w g nm bs en st AN cN AB cB AE cE AS cS _ _ _ _ AX _ cX h _ rfl h0 ht k i h1 h2 h3
  ·rw [if_neg ht] at hi
   obtain rfl := Option.some.inj hi
   exact do_and4off W w g nm bs en st AN cN AB cB AE cE AS cS _ _ _ _ AX _ cX h _ rfl h0 (Bool.eq_false_iff.mpr ht)
 rw [if_neg o4] at hi
 by_cases o5 : x.f0 = 5
 ·rw [if_pos o5] at hi
  rw [o5]
  by_cases ht : rdOf false st ((st.length : Int) - 1) = true
  ·rw [if_pos ht] at hi
   obtain rfl := Option.some.inj hi
   exact do_or5off W w g nm bs en st AN cN AB cB AE cE AS cS _ _ _ _ AX _ cX h _ rfl h0 ht
  ·rw [if_neg ht] at hi
   obtain ⟨i, hx, hi⟩ := Option.bind_eq_some_iff.mp hi
   obtain ⟨h1, h2, h3⟩ := idxF_some hx
   obtain rfl := Option.some.inj hi
   exact do_or5on W w g nm bs en st AN cN AB cB AE cE AS cS _ _ _ _ AX _ cX h _ rfl h0 (Bool.eq_false_iff.mpr ht) k i h1 h2 h3
 rw [if_neg o5] at hi
 by_cases o6 : x.f0 = 6
 ·rw [if_pos o6] at hi
  rw [o6]
  by_cases ht : rdOf false st ((st.length : Int) - 1) = true
  ·rw [if_pos ht] at hi
   obtain rfl := Option.some.inj hi
   exact do_or6off W w g nm bs en st AN cN AB cB AE cE AS cS _ _ _ _ AX _ cX h _ rfl h0 ht
  ·rw [if_neg ht] at hi
   obtain ⟨i, hx, hi⟩ := Option.bind_eq_some_iff.mp hi
   obtain ⟨h1, h2, h3⟩ := idxF_some hx
   obtain rfl := Option.some.inj hi
   exact do_or6on W w g nm bs en st AN cN AB cB AE cE AS cS _ _ _ _ AX _ cX h _ rfl h0 (Bool.eq_false_iff.mpr ht) k i h1 h2 h3
 rw [if_neg o6] at hi
 by_cases o9 : x.f0 = 9
 ·rw [if_pos o9] at hi
  obtain rfl := Option.some.inj hi
  rw [o9]
  exact do_not W w g nm bs en st AN cN AB cB AE cE AS cS _ _ _ _ AX _ cX h _ rfl h0
 rw [if_neg o9] at hi
 by_cases hL1 : (st.length : Int) - 1 < 1
 ·rw [if_pos hL1] at hi; cases hi
 rw [if_neg hL1] at hi
 have h1 : 1 ≤ (st.length : Int) - 1 := by omega
 by_cases o7 : x.f0 = 7
 ·rw [if_pos o7] at hi
  obtain rfl := Option.some.inj hi
  rw [o7]
  cases ht : rdOf false st ((st.length : Int) - 1 - 1) with
  | true => rw [Bool.true_and]; exact do_anbon W w g nm bs en st AN cN AB cB AE cE AS cS _ _ _ _ AX _ cX h _ rfl h1 ht hl
  | false => rw [Bool.false_and]; exact do_anboff W w g nm bs en st AN cN AB cB AE cE AS cS _ _ _ _ AX _ cX h _ rfl h1 ht hl
 rw [if_neg o7] at hi
 by_cases o8 : x.f0 = 8
 ·rw [if_pos o8] at hi
  obtain rfl := Option.some.inj hi
  rw [o8]
  cases ht : rdOf false st ((st.length : Int) - 1 - 1) with
  | true => rw [Bool.true_or]; exact do_orboff W w g nm bs en st AN cN AB cB AE cE AS cS _ _ _ _ AX _ cX h _ rfl h1 ht hl
  | false => rw [Bool.false_or]; exact do_orbon W w g nm bs en st AN cN AB cB AE cE AS cS _ _ _ _ AX _ cX h _ rfl h1 ht hl
 rw [if_neg o8] at hi
 cases hi
end Go.Proofs.YtiaccdaeomaogaaDoor.F
namespace Go.Proofs.YtiaccdaeomaogaaDoor.F
open Go.RowKit Go.Proofs.YtiaccdaeomaogaaDoorW.PrintWords Go.Proofs.YtiaccdaeomaogaaDoorW.PrintLast Go.Proofs.YtiaccdaeomaogaaDoorW.PrintMore
attribute [local go_sem] max2_int min2_int max_two min_two max_three min_three max_four min_four   -- for this text's walks alone
set_option linter.unusedVariables false
set_option linter.unusedSimpArgs false
def rung_strangeN.l0 : Nat → List ByteArray → Int → Int → Option (Bool)
  | 0, _, _, _ => none
  | k + 1, x8, x9, x10 => if x10 < x9 then (if 0 ≤ x10 then (if x10 < (x8.length : Int) then (rung_strangeN.l0 k x8 x9 (wrap64 (x10 + 1))) else (none)) else (none)) else (some false)
def rung_strangeN.f (k : Nat) (a0_0 : Int) (a0_1 : Int) (a0_2 : ByteArray) (l0_3 : List (S34)) (l1 : List ByteArray) : Option (Bool) := (expr_Names.f k a0_0 a0_1 a0_2 l0_3).bind fun t102 => (rung_strangeN.l0 k t102 (t102.length : Int) 0)
theorem rung_strangeN.mono_l : ∀ k, (∀ y0 y1 y2, LeO (rung_strangeN.l0 k y0 y1 y2) (rung_strangeN.l0 (k + 1) y0 y1 y2))
  | 0 => fun _ _ _ r h => by simp [rung_strangeN.l0] at h
  | k + 1 => by
    have ih0 := rung_strangeN.mono_l k
    · intro y0 y1 y2
      unfold rung_strangeN.l0
      repeat' first
      | (with_reducible exact ih0 _ _ _)
      | (with_reducible exact expr_Names.mono _ _ _ _ _)
      | (with_reducible exact LeO.refl _)
      | (with_reducible exact LeO.none _)
      | (with_reducible refine LeO.ite ?_ ?_)
      | (with_reducible refine LeO.bind ?_ (fun _ => ?_))
      | exact ih0 _ _ _
      | exact expr_Names.mono _ _ _ _ _
      | exact LeO.none _
      | refine LeO.ite ?_ ?_
      | refine LeO.bind ?_ (fun _ => ?_)
theorem rung_strangeN.mono : ∀ a0 a1 a2 a3 a4 k, LeO (rung_strangeN.f k a0 a1 a2 a3 a4) (rung_strangeN.f (k + 1) a0 a1 a2 a3 a4) := by
  intro a0 a1 a2 a3 a4 k
  have ih0 := rung_strangeN.mono_l k
  unfold rung_strangeN.f
  repeat' first
      | (with_reducible exact ih0 _ _ _)
      | (with_reducible exact expr_Names.mono _ _ _ _ _)
      | (with_reducible exact LeO.refl _)
      | (with_reducible exact LeO.none _)
      | (with_reducible refine LeO.ite ?_ ?_)
      | (with_reducible refine LeO.bind ?_ (fun _ => ?_))
      | exact ih0 _ _ _
      | exact expr_Names.mono _ _ _ _ _
      | exact LeO.none _
      | refine LeO.ite ?_ ?_
      | refine LeO.bind ?_ (fun _ => ?_)
set_option maxHeartbeats 8000000 in
set_option maxRecDepth 100000 in
theorem rung_strangeN.calls (k : Nat) (a0_0 : Int) (a0_1 : Int) (a0_2 : ByteArray) (A0_3 : Option Addr) (c0_3 : Nat) (l0_3 : List (S34)) (A1 : Option Addr) (c1 : Nat) (l1 : List ByteArray) (r : Bool) (w : World) (hr0_3 : Kd.C k34 w A0_3 l0_3.length l0_3) (hc0_3 : l0_3.length ≤ c0_3) (hr1 : Kd.C Kd.string w A1 l1.length l1) (hc1 : l1.length ≤ c1) (h : rung_strangeN.f k a0_0 a0_1 a0_2 l0_3 l1 = some r) (hN : A1 = none) (hT : UT w) :
    Calls Tryd.prog 123 #[.agg #[.int .i64 a0_0, .int .i64 a0_1, .string a0_2, .slice A0_3 l0_3.length c0_3], .slice A1 l1.length c1] w fun e w' => e = .returned (.bool r) ∧ Below w.heap.size w w' := by
  have HT0 := Aside0.mk hT
  clear hT
  have hN2 : ∀ w' : World, (binOp .neq 23 (.slice A1 l1.length c1) (.slice none 0 0)).run Tryd.prog w' = .ok (.bool false) w' := fun w' => by rw [Go.run_neq_slice_nil w' 23 9 A1 l1.length c1 Tryd.underlying23]; rw [hN]; rfl
  have HNL := Aside0.mk hN
  clear hN
  have hu34 := Tryd.underlying34
  have HR0_3 := Aside0.mk hr0_3
  have HC0_3 := Aside0.mk hc0_3
  clear hr0_3 hc0_3
  have HR1 := Aside0.mk hr1
  have HC1 := Aside0.mk hc1
  clear hr1 hc1
  have HB := Aside0.mk (Below.refl w.heap.size w)
  have H : ((expr_Names.f k a0_0 a0_1 a0_2 l0_3).bind fun t102 => (rung_strangeN.l0 k t102 (t102.length : Int) 0)) = some r := h
  clear h
  replace H := Option.bind_eq_some_iff.mp H
  obtain ⟨t102, A30, H⟩ := H
  replace H : (rung_strangeN.l0 k t102 (t102.length : Int) 0) = some r := H
  have A3 := Aside0.mk A30
  clear A30
  have H' := Aside0.mk H
  clear H
  go_enter Tryd.func123, Tryd.ntmps123
  go_wp2_with (first | ((with_reducible refine gate_dst (N := 2) rfl ?_); refine box_event ?hg (N := 2) ?hd (cs := #[.int .i64 a0_0, .int .i64 a0_1, .string a0_2, .slice A0_3 l0_3.length c0_3]) (t := 34) ?hr ?_; (case hd => rfl); (case hg => rfl); (case hr => first | (go_simp; done) | (go_simp; rfl)); intro gb101 hg w4 hbox hb; have n0_ := Aside0.mk (below_step (by repeat (first | (with_reducible first | exact HB.out | apply below_alloc | apply pw_below_drewN | apply below_drew1) | exact HB.out)) hb); have n1_ := Aside0.mk (hbox); have n2_ := Aside0.mk ((by rw [hg]; exact (below_size (by repeat (first | (with_reducible first | exact HB.out | apply below_alloc | apply pw_below_drewN | apply below_drew1) | exact HB.out))) : w.heap.size ≤ gb101)); have n3_ := Aside0.mk ((by rw [hg]; exact (below_size (by repeat (first | (with_reducible first | exact HB.out | apply below_alloc | apply pw_below_drewN | apply below_drew1) | exact HB.out))) : w.heap.size ≤ gb101)); clear HB; have HB := n0_; have BK101 := n1_; have GW101 := n2_; have GE101 := n3_; clear n0_ n1_ n2_ n3_; clear hb hbox hg; have hcz5_0 : w4.cell? ⟨gb101, 0, none⟩ = some (.int .i64 a0_0) := (blk_cell BK101.out 0).trans rfl; have hcz5_1 : w4.cell? ⟨gb101, 1, none⟩ = some (.int .i64 a0_1) := (blk_cell BK101.out 1).trans rfl; have hcz5_2 : w4.cell? ⟨gb101, 2, none⟩ = some (.string a0_2) := (blk_cell BK101.out 2).trans rfl; have hcz5_3 : w4.cell? ⟨gb101, 3, none⟩ = some (.slice A0_3 l0_3.length c0_3) := (blk_cell BK101.out 3).trans rfl; have hfz5_0 := blk_frozen BK101.out 0; have hfz5_1 := blk_frozen BK101.out 1; have hfz5_2 := blk_frozen BK101.out 2; have hfz5_3 := blk_frozen BK101.out 3) | ((with_reducible refine gate_callee (f := 106) rfl ?_); refine goesL_ (some 8) rfl rfl Tryd.func106 (by kernel_rfl) rfl #[.agg #[.int .i64 a0_0, .int .i64 a0_1, .string a0_2, .slice A0_3 l0_3.length c0_3]] rfl (by (try simp only [List.map_toArray, List.map_cons, List.map_nil]); first | done | rfl | (simp only [List.length_drop, List.length_take]; rfl)) ?_; (with_reducible refine (expr_Names.calls k a0_0 a0_1 a0_2 _ _ l0_3 t102 _ ?side1 ?side2 A3.out (by first | exact HT0.out | exact UT.below HT0.out (by repeat (first | (with_reducible first | exact HB.out | apply below_alloc | apply pw_below_drewN | apply below_drew1 | refine below_set ?_ GE101.out) | exact HB.out)))).mono ?_); (case side1 => repeat (first | exact (Kd.C_below HR0_3.out HB.out) | (with_reducible refine Kd.C_alloc ?_ _) | (with_reducible refine Kd.C_drewN ?_ _) | (with_reducible refine Kd.C_drew ?_))); (case side2 => exact HC0_3.out); rintro e w6 ⟨v103, rfl, ho0, hb⟩; refine ⟨_, rfl, ?_⟩; have n0_ := Aside0.mk (Kd.R_lower ho0 (below_size (by repeat (first | (with_reducible first | exact HB.out | apply below_alloc | apply pw_below_drewN | apply below_drew1 | refine below_set ?_ GE101.out) | exact HB.out)))); have n1_ := Aside0.mk (blk_below (g := gb101) (o := .cells #[.int .i64 a0_0, .int .i64 a0_1, .string a0_2, .slice A0_3 l0_3.length c0_3] 34 (0, 0)) (by (with_reducible repeat (first | refine blk_drewN ?_ _ | refine blk_drew ?_ | refine blk_alloc ?_ _)); exact BK101.out) hb); have n2_ := Aside0.mk (below_step (by repeat (first | (with_reducible first | exact HB.out | apply below_alloc | apply pw_below_drewN | apply below_drew1 | refine below_set ?_ GE101.out) | exact HB.out)) hb); clear BK101; clear HB; have HO104 := n0_; have BK101 := n1_; have HB := n2_; clear n0_ n1_ n2_; (try clear hb); (try clear hb2); (try clear hk); (try clear hi); (try clear ho0); obtain ⟨Ao7, co7, eo7⟩ := Kd.R_slice HO104.out; subst eo7))
  go_loopg [10] k (fun kq v10 w' => ∃ (x10_1 : Int), v10 = .int .i64 x10_1 ∧ Aside0 (rung_strangeN.l0 kq t102 (t102.length : Int) x10_1 = some r) ∧ Aside0 (kq ≤ k) ∧ Aside0 (Kd.R Kd.string 9 w' w.heap.size (fun _ => True) (.slice Ao7 t102.length co7) t102) ∧ Aside0 (w'.heap[gb101]? = some (.cells #[.int .i64 a0_0, .int .i64 a0_1, .string a0_2, (.slice A0_3 l0_3.length c0_3)] 34 (0, 0))) ∧ Aside0 (Below w.heap.size w w'))
  case atStart => exact ⟨(0), (by first | rfl | (simp; done) | (simp [*]; done)), H', ⟨Nat.le_refl _⟩, ⟨by (with_reducible repeat (first | apply Kd.R_alloc | apply Kd.R_drewN | apply Kd.R_drew)); exact HO104.out⟩, ⟨by (with_reducible repeat (first | refine blk_drewN ?_ _ | refine blk_drew ?_ | refine blk_alloc ?_ _)); exact BK101.out⟩, ⟨by repeat (first | (with_reducible first | exact HB.out | apply below_alloc | apply pw_below_drewN | apply below_drew1 | refine below_set ?_ GE101.out) | exact HB.out)⟩⟩
  case round =>
    clear H'
    obtain ⟨x10_1, rfl, HA, HK1, HO_8, BK101, HB⟩ := hrel
    cases gk with
    | zero => exact absurd HA.out (by simp [rung_strangeN.l0])
    | succ k1 =>
      have H := HA.out
      clear HA
      simp only [rung_strangeN.l0] at H
      by_cases c8 : x10_1 < (t102.length : Int)
      · rw [if_pos c8] at H
        have c8b0 : decide (x10_1 < (t102.length : Int)) = true := decide_eq_true c8
        clear c8
        by_cases c9 : 0 ≤ x10_1
        · rw [if_pos c9] at H
          have c9b0 : decide (0 ≤ x10_1) = true := decide_eq_true c9
          clear c9
          by_cases c10 : x10_1 < (t102.length : Int)
          · rw [if_pos c10] at H
            have c10b0 : decide (x10_1 < (t102.length : Int)) = true := decide_eq_true c10
            clear c10
            have H' := Aside0.mk H
            clear H
            have p105 : 0 ≤ (x10_1 : Int) := of_decide_eq_true (by first | (with_reducible assumption) | assumption)
            have q105 : x10_1 < (t102.length : Int) := of_decide_eq_true (by first | (with_reducible assumption) | assumption)
            obtain ⟨ad105, e105, hx105_0⟩ := Kd.at_string (Kd.R_reads' HO_8.out).2.2 x10_1 p105 q105
            cases e105
            replace p105 := eq_true p105
            replace q105 := eq_true q105
            go_wp2
            go_roundg k1
            case measure => have := HK1.out; omega
            case rel => exact ⟨(wrap64 (x10_1 + 1)), (by first | rfl | (simp; done) | (simp [*]; done)), H', ⟨by have := HK1.out; omega⟩, ⟨by (with_reducible repeat (first | apply Kd.R_alloc | apply Kd.R_drewN | apply Kd.R_drew)); exact HO_8.out⟩, ⟨by (with_reducible repeat (first | refine blk_drewN ?_ _ | refine blk_drew ?_ | refine blk_alloc ?_ _)); exact BK101.out⟩, ⟨by repeat (first | (with_reducible first | exact HB.out | apply below_alloc | apply pw_below_drewN | apply below_drew1 | refine below_set ?_ GE101.out) | exact HB.out)⟩⟩
          · rw [if_neg c10] at H
            exact absurd H (by simp)
        · rw [if_neg c9] at H
          exact absurd H (by simp)
      · rw [if_neg c8] at H
        have c8b0 : decide (x10_1 < (t102.length : Int)) = false := decide_eq_false c8
        clear c8
        obtain rfl := Option.some.inj H
        go_wp2
        go_ret
        exact ⟨by first | rfl | (simp [errW_none, errW_some] <;> rfl) | (simp [*, errW_none, errW_some] <;> rfl), by repeat (first | (with_reducible first | exact HB.out | apply below_alloc | apply pw_below_drewN | apply below_drew1 | refine below_set ?_ GE101.out) | exact HB.out)⟩
end Go.Proofs.YtiaccdaeomaogaaDoor.F
namespace Go.Proofs.YtiaccdaeomaogaaDoor.F
open Go.RowKit Go.Proofs.YtiaccdaeomaogaaDoorW.PrintWords Go.Proofs.YtiaccdaeomaogaaDoorW.PrintLast Go.Proofs.YtiaccdaeomaogaaDoorW.PrintMore
attribute [local go_sem] max2_int min2_int max_two min_two max_three min_three max_four min_four   -- for this text's walks alone
set_option linter.unusedVariables false
set_option linter.unusedSimpArgs false
mutual
def rung_codeN.l0 : Nat → List ByteArray → List ByteArray → Int → List (S40) → Int → Int → Option (Int)
  | 0, _, _, _, _, _, _ => none
  | k + 1, x1, x2, x7, x17, x18, x19 => if x19 < x18 then (if 0 ≤ x19 then (if x19 < (x17.length : Int) then ((rung_named.f k ((rd_T40 x17 x19).f0)).bind fun bt103 => (if bt103.2.2.2 = true then (if bt103.1 = true then (if ((rd_T40 x17 x19).f0) = 2 then (rung_codeN.j1 k x1 x2 x7 bt103.1 bt103.2.1 bt103.2.2.1 x17 x18 x19 false ((rd_T40 x17 x19).f0) ((rd_T40 x17 x19).f1) ((rd_T40 x17 x19).f2.f0) ((rd_T40 x17 x19).f2.f1) ((rd_T40 x17 x19).f2.f2) ((rd_T40 x17 x19).f2.f3)) else ((rung_blank.f ((rd_T40 x17 x19).f2.f0) ((rd_T40 x17 x19).f2.f1) ((rd_T40 x17 x19).f2.f2) ((rd_T40 x17 x19).f2.f3)).bind fun t107 => (rung_codeN.j1 k x1 x2 x7 bt103.1 bt103.2.1 bt103.2.2.1 x17 x18 x19 (!t107) ((rd_T40 x17 x19).f0) ((rd_T40 x17 x19).f1) ((rd_T40 x17 x19).f2.f0) ((rd_T40 x17 x19).f2.f1) ((rd_T40 x17 x19).f2.f2) ((rd_T40 x17 x19).f2.f3)))) else (if ((rd_T40 x17 x19).f1).toList = ([] : List UInt8) then (if ((rd_T40 x17 x19).f0) = 2 then (rung_codeN.j1 k x1 x2 x7 bt103.1 bt103.2.1 bt103.2.2.1 x17 x18 x19 false ((rd_T40 x17 x19).f0) ((rd_T40 x17 x19).f1) ((rd_T40 x17 x19).f2.f0) ((rd_T40 x17 x19).f2.f1) ((rd_T40 x17 x19).f2.f2) ((rd_T40 x17 x19).f2.f3)) else ((rung_blank.f ((rd_T40 x17 x19).f2.f0) ((rd_T40 x17 x19).f2.f1) ((rd_T40 x17 x19).f2.f2) ((rd_T40 x17 x19).f2.f3)).bind fun t108 => (rung_codeN.j1 k x1 x2 x7 bt103.1 bt103.2.1 bt103.2.2.1 x17 x18 x19 (!t108) ((rd_T40 x17 x19).f0) ((rd_T40 x17 x19).f1) ((rd_T40 x17 x19).f2.f0) ((rd_T40 x17 x19).f2.f1) ((rd_T40 x17 x19).f2.f2) ((rd_T40 x17 x19).f2.f3)))) else (rung_codeN.j1 k x1 x2 x7 bt103.1 bt103.2.1 bt103.2.2.1 x17 x18 x19 (((rd_T40 x17 x19).f1).toList != ([] : List UInt8)) ((rd_T40 x17 x19).f0) ((rd_T40 x17 x19).f1) ((rd_T40 x17 x19).f2.f0) ((rd_T40 x17 x19).f2.f1) ((rd_T40 x17 x19).f2.f2) ((rd_T40 x17 x19).f2.f3)))) else (rung_codeN.j1 k x1 x2 x7 bt103.1 bt103.2.1 bt103.2.2.1 x17 x18 x19 (!bt103.2.2.2) ((rd_T40 x17 x19).f0) ((rd_T40 x17 x19).f1) ((rd_T40 x17 x19).f2.f0) ((rd_T40 x17 x19).f2.f1) ((rd_T40 x17 x19).f2.f2) ((rd_T40 x17 x19).f2.f3)))) else (none)) else (none)) else (if x7 = 1 then (some 0) else (some 1))
def rung_codeN.j1 : Nat → List ByteArray → List ByteArray → Int → Bool → Int → Int → List (S40) → Int → Int → Bool → Int → ByteArray → Int → Int → ByteArray → List (S34) → Option (Int)
  | 0, _, _, _, _, _, _, _, _, _, _, _, _, _, _, _, _ => none
  | k + 1, x1, x2, x7, x10, x11, x12, x17, x18, x19, x31, x103000, x103001, x103002, x103003, x103004, x103005 => if x31 = true then (some 1) else (if x10 = true then ((slices_Contains_string_string.f k x1 x103001).bind fun t109 => (rung_codeN.j2 k x1 x2 x7 x11 x12 x17 x18 x19 (!t109) x103000 x103001 x103002 x103003 x103004 x103005)) else (rung_codeN.j2 k x1 x2 x7 x11 x12 x17 x18 x19 false x103000 x103001 x103002 x103003 x103004 x103005))
def rung_codeN.j2 : Nat → List ByteArray → List ByteArray → Int → Int → Int → List (S40) → Int → Int → Bool → Int → ByteArray → Int → Int → ByteArray → List (S34) → Option (Int)
  | 0, _, _, _, _, _, _, _, _, _, _, _, _, _, _, _ => none
  | k + 1, x1, x2, x7, x11, x12, x17, x18, x19, x50, x103000, x103001, x103002, x103003, x103004, x103005 => if x50 = true then (rung_codeN.j3 k x1 x2 x7 x11 x12 x17 x18 x19 x50 x103000 x103001 x103002 x103003 x103004 x103005) else (if x103000 = 2 then ((rung_strangeN.f k x103002 x103003 x103004 x103005 x2).bind fun t110 => (rung_codeN.j3 k x1 x2 x7 x11 x12 x17 x18 x19 t110 x103000 x103001 x103002 x103003 x103004 x103005)) else (rung_codeN.j3 k x1 x2 x7 x11 x12 x17 x18 x19 false x103000 x103001 x103002 x103003 x103004 x103005))
def rung_codeN.j3 : Nat → List ByteArray → List ByteArray → Int → Int → Int → List (S40) → Int → Int → Bool → Int → ByteArray → Int → Int → ByteArray → List (S34) → Option (Int)
  | 0, _, _, _, _, _, _, _, _, _, _, _, _, _, _, _ => none
  | k + 1, x1, x2, x7, x11, x12, x17, x18, x19, x50, x103000, x103001, x103002, x103003, x103004, x103005 => if x50 = true then (some 21) else (if x103000 = 2 then ((expr_May.f k x103002 x103003 x103004 x103005).bind fun t111 => (rung_codeN.j4 k x1 x2 x7 x11 x12 x17 x18 x19 (!t111))) else (rung_codeN.j4 k x1 x2 x7 x11 x12 x17 x18 x19 false))
def rung_codeN.j4 : Nat → List ByteArray → List ByteArray → Int → Int → Int → List (S40) → Int → Int → Bool → Option (Int)
  | 0, _, _, _, _, _, _, _, _, _ => none
  | k + 1, x1, x2, x7, x11, x12, x17, x18, x19, x68 => if x68 = true then (some 1) else (if x7 < x11 then (some 1) else (if (wrap64 ((wrap64 (x7 - x11)) + x12)) > 8 then (some 1) else (rung_codeN.l0 k x1 x2 (wrap64 (x7 + (wrap64 (x12 - x11)))) x17 x18 (wrap64 (x19 + 1)))))
end
def rung_codeN.f (k : Nat) (l0 : List (S40)) (l1 : List ByteArray) (l2 : List ByteArray) : Option (Int) := if (l0.length : Int) > 12 then (some 2) else (rung_codeN.l0 k l1 l2 0 l0 (l0.length : Int) 0)
theorem rung_codeN.mono_l : ∀ k, (∀ y0 y1 y2 y3 y4 y5, LeO (rung_codeN.l0 k y0 y1 y2 y3 y4 y5) (rung_codeN.l0 (k + 1) y0 y1 y2 y3 y4 y5)) ∧ (∀ y0 y1 y2 y3 y4 y5 y6 y7 y8 y9 y10 y11 y12 y13 y14 y15, LeO (rung_codeN.j1 k y0 y1 y2 y3 y4 y5 y6 y7 y8 y9 y10 y11 y12 y13 y14 y15) (rung_codeN.j1 (k + 1) y0 y1 y2 y3 y4 y5 y6 y7 y8 y9 y10 y11 y12 y13 y14 y15)) ∧ (∀ y0 y1 y2 y3 y4 y5 y6 y7 y8 y9 y10 y11 y12 y13 y14, LeO (rung_codeN.j2 k y0 y1 y2 y3 y4 y5 y6 y7 y8 y9 y10 y11 y12 y13 y14) (rung_codeN.j2 (k + 1) y0 y1 y2 y3 y4 y5 y6 y7 y8 y9 y10 y11 y12 y13 y14)) ∧ (∀ y0 y1 y2 y3 y4 y5 y6 y7 y8 y9 y10 y11 y12 y13 y14, LeO (rung_codeN.j3 k y0 y1 y2 y3 y4 y5 y6 y7 y8 y9 y10 y11 y12 y13 y14) (rung_codeN.j3 (k + 1) y0 y1 y2 y3 y4 y5 y6 y7 y8 y9 y10 y11 y12 y13 y14)) ∧ (∀ y0 y1 y2 y3 y4 y5 y6 y7 y8, LeO (rung_codeN.j4 k y0 y1 y2 y3 y4 y5 y6 y7 y8) (rung_codeN.j4 (k + 1) y0 y1 y2 y3 y4 y5 y6 y7 y8))
  | 0 => ⟨fun _ _ _ _ _ _ r h => by simp [rung_codeN.l0] at h, fun _ _ _ _ _ _ _ _ _ _ _ _ _ _ _ _ r h => by simp [rung_codeN.j1] at h, fun _ _ _ _ _ _ _ _ _ _ _ _ _ _ _ r h => by simp [rung_codeN.j2] at h, fun _ _ _ _ _ _ _ _ _ _ _ _ _ _ _ r h => by simp [rung_codeN.j3] at h, fun _ _ _ _ _ _ _ _ _ r h => by simp [rung_codeN.j4] at h⟩
  | k + 1 => by
    obtain ⟨ih0, ih1, ih2, ih3, ih4⟩ := rung_codeN.mono_l k
    refine ⟨?_, ?_, ?_, ?_, ?_⟩
    · intro y0 y1 y2 y3 y4 y5
      unfold rung_codeN.l0
      repeat' first
      | (with_reducible exact ih0 _ _ _ _ _ _)
      | (with_reducible exact ih1 _ _ _ _ _ _ _ _ _ _ _ _ _ _ _ _)
      | (with_reducible exact ih2 _ _ _ _ _ _ _ _ _ _ _ _ _ _ _)
      | (with_reducible exact ih3 _ _ _ _ _ _ _ _ _ _ _ _ _ _ _)
      | (with_reducible exact ih4 _ _ _ _ _ _ _ _ _)
      | (with_reducible exact expr_May.mono _ _ _ _ _)
      | (with_reducible exact rung_named.mono _ _)
      | (with_reducible exact rung_strangeN.mono _ _ _ _ _ _)
      | (with_reducible exact slices_Contains_string_string.mono _ _ _)
      | (with_reducible exact LeO.refl _)
      | (with_reducible exact LeO.none _)
      | (with_reducible refine LeO.ite ?_ ?_)
      | (with_reducible refine LeO.bind ?_ (fun _ => ?_))
      | exact ih0 _ _ _ _ _ _
      | exact ih1 _ _ _ _ _ _ _ _ _ _ _ _ _ _ _ _
      | exact ih2 _ _ _ _ _ _ _ _ _ _ _ _ _ _ _
      | exact ih3 _ _ _ _ _ _ _ _ _ _ _ _ _ _ _
      | exact ih4 _ _ _ _ _ _ _ _ _
      | exact expr_May.mono _ _ _ _ _
      | exact rung_named.mono _ _
      | exact rung_strangeN.mono _ _ _ _ _ _
      | exact slices_Contains_string_string.mono _ _ _
      | exact LeO.none _
      | refine LeO.ite ?_ ?_
      | refine LeO.bind ?_ (fun _ => ?_)
    · intro y0 y1 y2 y3 y4 y5 y6 y7 y8 y9 y10 y11 y12 y13 y14 y15
      unfold rung_codeN.j1
      repeat' first
      | (with_reducible exact ih0 _ _ _ _ _ _)
      | (with_reducible exact ih1 _ _ _ _ _ _ _ _ _ _ _ _ _ _ _ _)
      | (with_reducible exact ih2 _ _ _ _ _ _ _ _ _ _ _ _ _ _ _)
      | (with_reducible exact ih3 _ _ _ _ _ _ _ _ _ _ _ _ _ _ _)
      | (with_reducible exact ih4 _ _ _ _ _ _ _ _ _)
      | (with_reducible exact expr_May.mono _ _ _ _ _)
      | (with_reducible exact rung_named.mono _ _)
      | (with_reducible exact rung_strangeN.mono _ _ _ _ _ _)
      | (with_reducible exact slices_Contains_string_string.mono _ _ _)
      | (with_reducible exact LeO.refl _)
      | (with_reducible exact LeO.none _)
      | (with_reducible refine LeO.ite ?_ ?_)
      | (with_reducible refine LeO.bind ?_ (fun _ => ?_))
      | exact ih0 _ _ _ _ _ _
      | exact ih1 _ _ _ _ _ _ _ _ _ _ _ _ _ _ _ _
      | exact ih2 _ _ _ _ _ _ _ _ _ _ _ _ _ _ _
      | exact ih3 _ _ _ _ _ _ _ _ _ _ _ _ _ _ _
      | exact ih4 _ _ _ _ _ _ _ _ _
      | exact expr_May.mono _ _ _ _ _
      | exact rung_named.mono _ _
      | exact rung_strangeN.mono _ _ _ _ _ _
      | exact slices_Contains_string_string.mono _ _ _
      | exact LeO.none _
      | refine LeO.ite ?_ ?_
      | refine LeO.bind ?_ (fun _ => ?_)
    · intro y0 y1 y2 y3 y4 y5 y6 y7 y8 y9 y10 y11 y12 y13 y14
      unfold rung_codeN.j2
      repeat' first
      | (with_reducible exact ih0 _ _ _ _ _ _)
      | (with_reducible exact ih1 _ _ _ _ _ _ _ _ _ _ _ _ _ _ _ _)
      | (with_reducible exact ih2 _ _ _ _ _ _ _ _ _ _ _ _ _ _ _)
      | (with_reducible exact ih3 _ _ _ _ _ _ _ _ _ _ _ _ _ _ _)
      | (with_reducible exact ih4 _ _ _ _ _ _ _ _ _)
      | (with_reducible exact expr_May.mono _ _ _ _ _)
      | (with_reducible exact rung_named.mono _ _)
      | (with_reducible exact rung_strangeN.mono _ _ _ _ _ _)
      | (with_reducible exact slices_Contains_string_string.mono _ _ _)
      | (with_reducible exact LeO.refl _)
      | (with_reducible exact LeO.none _)
      | (with_reducible refine LeO.ite ?_ ?_)
      | (with_reducible refine LeO.bind ?_ (fun _ => ?_))
      | exact ih0 _ _ _ _ _ _
      | exact ih1 _ _ _ _ _ _ _ _ _ _ _ _ _ _ _ _
      | exact ih2 _ _ _ _ _ _ _ _ _ _ _ _ _ _ _
      | exact ih3 _ _ _ _ _ _ _ _ _ _ _ _ _ _ _
      | exact ih4 _ _ _ _ _ _ _ _ _
      | exact expr_May.mono _ _ _ _ _
      | exact rung_named.mono _ _
      | exact rung_strangeN.mono _ _ _ _ _ _
      | exact slices_Contains_string_string.mono _ _ _
      | exact LeO.none _
      | refine LeO.ite ?_ ?_
      | refine LeO.bind ?_ (fun _ => ?_)
    · intro y0 y1 y2 y3 y4 y5 y6 y7 y8 y9 y10 y11 y12 y13 y14
      unfold rung_codeN.j3
      repeat' first
      | (with_reducible exact ih0 _ _ _ _ _ _)
      | (with_reducible exact ih1 _ _ _ _ _ _ _ _ _ _ _ _ _ _ _ _)
      | (with_reducible exact ih2 _ _ _ _ _ _ _ _ _ _ _ _ _ _ _)
      | (with_reducible exact ih3 _ _ _ _ _ _ _ _ _ _ _ _ _ _ _)
      | (with_reducible exact ih4 _ _ _ _ _ _ _ _ _)
      | (with_reducible exact expr_May.mono _ _ _ _ _)
      | (with_reducible exact rung_named.mono _ _)
      | (with_reducible exact rung_strangeN.mono _ _ _ _ _ _)
      | (with_reducible exact slices_Contains_string_string.mono _ _ _)
      | (with_reducible exact LeO.refl _)
      | (with_reducible exact LeO.none _)
      | (with_reducible refine LeO.ite ?_ ?_)
      | (with_reducible refine LeO.bind ?_ (fun _ => ?_))
      | exact ih0 _ _ _ _ _ _
      | exact ih1 _ _ _ _ _ _ _ _ _ _ _ _ _ _ _ _
      | exact ih2 _ _ _ _ _ _ _ _ _ _ _ _ _ _ _
      | exact ih3 _ _ _ _ _ _ _ _ _ _ _ _ _ _ _
      | exact ih4 _ _ _ _ _ _ _ _ _
      | exact expr_May.mono _ _ _ _ _
      | exact rung_named.mono _ _
      | exact rung_strangeN.mono _ _ _ _ _ _
      | exact slices_Contains_string_string.mono _ _ _
      | exact LeO.none _
      | refine LeO.ite ?_ ?_
      | refine LeO.bind ?_ (fun _ => ?_)
    · intro y0 y1 y2 y3 y4 y5 y6 y7 y8
      unfold rung_codeN.j4
      repeat' first
      | (with_reducible exact ih0 _ _ _ _ _ _)
      | (with_reducible exact ih1 _ _ _ _ _ _ _ _ _ _ _ _ _ _ _ _)
      | (with_reducible exact ih2 _ _ _ _ _ _ _ _ _ _ _ _ _ _ _)
      | (with_reducible exact ih3 _ _ _ _ _ _ _ _ _ _ _ _ _ _ _)
      | (with_reducible exact ih4 _ _ _ _ _ _ _ _ _)
      | (with_reducible exact expr_May.mono _ _ _ _ _)
      | (with_reducible exact rung_named.mono _ _)
      | (with_reducible exact rung_strangeN.mono _ _ _ _ _ _)
      | (with_reducible exact slices_Contains_string_string.mono _ _ _)
      | (with_reducible exact LeO.refl _)
      | (with_reducible exact LeO.none _)
      | (with_reducible refine LeO.ite ?_ ?_)
      | (with_reducible refine LeO.bind ?_ (fun _ => ?_))
      | exact ih0 _ _ _ _ _ _
      | exact ih1 _ _ _ _ _ _ _ _ _ _ _ _ _ _ _ _
      | exact ih2 _ _ _ _ _ _ _ _ _ _ _ _ _ _ _
      | exact ih3 _ _ _ _ _ _ _ _ _ _ _ _ _ _ _
      | exact ih4 _ _ _ _ _ _ _ _ _
      | exact expr_May.mono _ _ _ _ _
      | exact rung_named.mono _ _
      | exact rung_strangeN.mono _ _ _ _ _ _
      | exact slices_Contains_string_string.mono _ _ _
      | exact LeO.none _
      | refine LeO.ite ?_ ?_
      | refine LeO.bind ?_ (fun _ => ?_)
theorem rung_codeN.mono : ∀ a0 a1 a2 k, LeO (rung_codeN.f k a0 a1 a2) (rung_codeN.f (k + 1) a0 a1 a2) := by
  intro a0 a1 a2 k
  obtain ⟨ih0, ih1, ih2, ih3, ih4⟩ := rung_codeN.mono_l k
  unfold rung_codeN.f
  repeat' first
      | (with_reducible exact ih0 _ _ _ _ _ _)
      | (with_reducible exact ih1 _ _ _ _ _ _ _ _ _ _ _ _ _ _ _ _)
      | (with_reducible exact ih2 _ _ _ _ _ _ _ _ _ _ _ _ _ _ _)
      | (with_reducible exact ih3 _ _ _ _ _ _ _ _ _ _ _ _ _ _ _)
      | (with_reducible exact ih4 _ _ _ _ _ _ _ _ _)
      | (with_reducible exact expr_May.mono _ _ _ _ _)
      | (with_reducible exact rung_named.mono _ _)
      | (with_reducible exact rung_strangeN.mono _ _ _ _ _ _)
      | (with_reducible exact slices_Contains_string_string.mono _ _ _)
      | (with_reducible exact LeO.refl _)
      | (with_reducible exact LeO.none _)
      | (with_reducible refine LeO.ite ?_ ?_)
      | (with_reducible refine LeO.bind ?_ (fun _ => ?_))
      | exact ih0 _ _ _ _ _ _
      | exact ih1 _ _ _ _ _ _ _ _ _ _ _ _ _ _ _ _
      | exact ih2 _ _ _ _ _ _ _ _ _ _ _ _ _ _ _
      | exact ih3 _ _ _ _ _ _ _ _ _ _ _ _ _ _ _
      | exact ih4 _ _ _ _ _ _ _ _ _
      | exact expr_May.mono _ _ _ _ _
      | exact rung_named.mono _ _
      | exact rung_strangeN.mono _ _ _ _ _ _
      | exact slices_Contains_string_string.mono _ _ _
      | exact LeO.none _
      | refine LeO.ite ?_ ?_
      | refine LeO.bind ?_ (fun _ => ?_)
set_option maxHeartbeats 8000000 in
set_option maxRecDepth 100000 in
theorem rung_codeN.calls (k : Nat) (A0 : Option Addr) (c0 : Nat) (l0 : List (S40)) (A1 : Option Addr) (c1 : Nat) (l1 : List ByteArray) (A2 : Option Addr) (c2 : Nat) (l2 : List ByteArray) (r : Int) (w : World) (hr0 : Kd.C k40 w A0 l0.length l0) (hc0 : l0.length ≤ c0) (hr1 : Kd.C Kd.string w A1 l1.length l1) (hc1 : l1.length ≤ c1) (hr2 : Kd.C Kd.string w A2 l2.length l2) (hc2 : l2.length ≤ c2) (h : rung_codeN.f k l0 l1 l2 = some r) (hN : A2 = none) (hT : UT w) :
  Calls Tryd.prog 92 #[.slice A0 l0.length c0, .slice A1 l1.length c1, .slice A2 l2.length c2] w fun e w' => e = .returned (.int .i64 r) ∧ Below w.heap.size w w' := by
 have HT0 := Aside0.mk hT
 clear hT
 have HNL := Aside0.mk hN
 clear hN
 have hu40 := Tryd.underlying40
 have hu34 := Tryd.underlying34
 have HR0 := Aside0.mk hr0
 have HC0 := Aside0.mk hc0
 clear hr0 hc0
 have HR1 := Aside0.mk hr1
 have HC1 := Aside0.mk hc1
 clear hr1 hc1
 have HR2 := Aside0.mk hr2
 have HC2 := Aside0.mk hc2
 clear hr2 hc2
 have HB := Aside0.mk (Below.refl w.heap.size w)
 have H : (if (l0.length : Int) > 12 then (some 2) else (rung_codeN.l0 k l1 l2 0 l0 (l0.length : Int) 0)) = some r := h
 clear h
 by_cases c4 : (l0.length : Int) > 12
 ·rw [if_pos c4] at H
  have c4b0 : decide (12 < (l0.length : Int)) = true := decide_eq_true c4
  have c4b1 : decide (12 < l0.length) = true := decide_eq_true (by omega)
  clear c4
  obtain rfl := Option.some.inj H
  go_enter Tryd.func92, Tryd.ntmps92
  go_wp2
  go_ret
  exact ⟨by first | rfl | (simp [errW_none, errW_some] <;> rfl) | (simp [*, errW_none, errW_some] <;> rfl), by repeat (first | (with_reducible first | exact HB.out | apply below_alloc | apply pw_below_drewN | apply below_drew1) | exact HB.out)⟩
 ·rw [if_neg c4] at H
  have c4b0 : decide (12 < (l0.length : Int)) = false := decide_eq_false c4
  have c4b1 : decide (12 < l0.length) = false := decide_eq_false (by omega)
  clear c4
  have H' := Aside0.mk H
  clear H
  go_enter Tryd.func92, Tryd.ntmps92
  go_wp2
  go_loopg [7, 19] k (fun kq v7 v19 w' => ∃ (x7_1 : Int) (x19_1 : Int), v7 = .int .i64 x7_1 ∧ v19 = .int .i64 x19_1 ∧ Aside0 (rung_codeN.l0 kq l1 l2 x7_1 l0 (l0.length : Int) x19_1 = some r) ∧ Aside0 (kq ≤ k) ∧ Aside0 (Below w.heap.size w w'))
  case atStart => exact ⟨(0), (0), (by first | rfl | (simp; done) | (simp [*]; done)), (by first | rfl | (simp; done) | (simp [*]; done)), H', ⟨Nat.le_refl _⟩, ⟨by repeat (first | (with_reducible first | exact HB.out | apply below_alloc | apply pw_below_drewN | apply below_drew1) | exact HB.out)⟩⟩
  case round =>
   clear H'
   obtain ⟨x7_1, x19_1, rfl, rfl, HA, HK1, HB⟩ := hrel
   cases gk with
   | zero => exact absurd HA.out (by simp [rung_codeN.l0])
   | succ k1 =>
    have H := HA.out
    clear HA
    simp only [rung_codeN.l0] at H
    by_cases c5 : x19_1 < (l0.length : Int)
    ·rw [if_pos c5] at H
     have c5b0 : decide (x19_1 < (l0.length : Int)) = true := decide_eq_true c5
     clear c5
     by_cases c6 : 0 ≤ x19_1
     ·rw [if_pos c6] at H
      have c6b0 : decide (0 ≤ x19_1) = true := decide_eq_true c6
      clear c6
      by_cases c7 : x19_1 < (l0.length : Int)
      ·rw [if_pos c7] at H
       have c7b0 : decide (x19_1 < (l0.length : Int)) = true := decide_eq_true c7
       clear c7
       replace H := Option.bind_eq_some_iff.mp H
       obtain ⟨⟨t103, t104, t105, t106⟩, A80, H⟩ := H
       replace H : (if t106 = true then (if t103 = true then (if ((rd_T40 l0 x19_1).f0) = 2 then (rung_codeN.j1 k1 l1 l2 x7_1 t103 t104 t105 l0 (l0.length : Int) x19_1 false ((rd_T40 l0 x19_1).f0) ((rd_T40 l0 x19_1).f1) ((rd_T40 l0 x19_1).f2.f0) ((rd_T40 l0 x19_1).f2.f1) ((rd_T40 l0 x19_1).f2.f2) ((rd_T40 l0 x19_1).f2.f3)) else ((rung_blank.f ((rd_T40 l0 x19_1).f2.f0) ((rd_T40 l0 x19_1).f2.f1) ((rd_T40 l0 x19_1).f2.f2) ((rd_T40 l0 x19_1).f2.f3)).bind fun t107 => (rung_codeN.j1 k1 l1 l2 x7_1 t103 t104 t105 l0 (l0.length : Int) x19_1 (!t107) ((rd_T40 l0 x19_1).f0) ((rd_T40 l0 x19_1).f1) ((rd_T40 l0 x19_1).f2.f0) ((rd_T40 l0 x19_1).f2.f1) ((rd_T40 l0 x19_1).f2.f2) ((rd_T40 l0 x19_1).f2.f3)))) else (if ((rd_T40 l0 x19_1).f1).toList = ([] : List UInt8) then (if ((rd_T40 l0 x19_1).f0) = 2 then (rung_codeN.j1 k1 l1 l2 x7_1 t103 t104 t105 l0 (l0.length : Int) x19_1 false ((rd_T40 l0 x19_1).f0) ((rd_T40 l0 x19_1).f1) ((rd_T40 l0 x19_1).f2.f0) ((rd_T40 l0 x19_1).f2.f1) ((rd_T40 l0 x19_1).f2.f2) ((rd_T40 l0 x19_1).f2.f3)) else ((rung_blank.f ((rd_T40 l0 x19_1).f2.f0) ((rd_T40 l0 x19_1).f2.f1) ((rd_T40 l0 x19_1).f2.f2) ((rd_T40 l0 x19_1).f2.f3)).bind fun t108 => (rung_codeN.j1 k1 l1 l2 x7_1 t103 t104 t105 l0 (l0.length : Int) x19_1 (!t108) ((rd_T40 l0 x19_1).f0) ((rd_T40 l0 x19_1).f1) ((rd_T40 l0 x19_1).f2.f0) ((rd_T40 l0 x19_1).f2.f1) ((rd_T40 l0 x19_1).f2.f2) ((rd_T40 l0 x19_1).f2.f3)))) else (rung_codeN.j1 k1 l1 l2 x7_1 t103 t104 t105 l0 (l0.length : Int) x19_1 (((rd_T40 l0 x19_1).f1).toList != ([] : List UInt8)) ((rd_T40 l0 x19_1).f0) ((rd_T40 l0 x19_1).f1) ((rd_T40 l0 x19_1).f2.f0) ((rd_T40 l0 x19_1).f2.f1) ((rd_T40 l0 x19_1).f2.f2) ((rd_T40 l0 x19_1).f2.f3)))) else (rung_codeN.j1 k1 l1 l2 x7_1 t103 t104 t105 l0 (l0.length : Int) x19_1 (!t106) ((rd_T40 l0 x19_1).f0) ((rd_T40 l0 x19_1).f1) ((rd_T40 l0 x19_1).f2.f0) ((rd_T40 l0 x19_1).f2.f1) ((rd_T40 l0 x19_1).f2.f2) ((rd_T40 l0 x19_1).f2.f3))) = some r := H
       have A8 := Aside0.mk A80
       clear A80
       have HC9 := Aside0.mk H
       clear H
       have p101 : 0 ≤ (x19_1 : Int) := of_decide_eq_true (by first | (with_reducible assumption) | assumption)
       have q101 : x19_1 < (l0.length : Int) := of_decide_eq_true (by first | (with_reducible assumption) | assumption)
       obtain ⟨ad101, A101_5, c101_5, e101, hx101_0, hx101_1, hx101_2, hx101_3, hx101_4, hx101_5, hl101_5, hi101_5⟩ := at_T40 HR0.out x19_1 p101 q101
       cases e101
       replace hx101_0 := (HB.out.cell (World.block_lt_of_cell? w _ hx101_0)).trans hx101_0
       replace hx101_1 := (HB.out.cell (World.block_lt_of_cell? w _ hx101_1)).trans hx101_1
       replace hx101_2 := (HB.out.cell (World.block_lt_of_cell? w _ hx101_2)).trans hx101_2
       replace hx101_3 := (HB.out.cell (World.block_lt_of_cell? w _ hx101_3)).trans hx101_3
       replace hx101_4 := (HB.out.cell (World.block_lt_of_cell? w _ hx101_4)).trans hx101_4
       replace hx101_5 := (HB.out.cell (World.block_lt_of_cell? w _ hx101_5)).trans hx101_5
       have HR101_5 := Aside0.mk hi101_5
       have HC101_5 := Aside0.mk hl101_5
       clear hi101_5 hl101_5
       replace p101 := eq_true p101
       replace q101 := eq_true q101
       go_upto_if 31 with (first | ((with_reducible refine gate_dst (N := 9) rfl ?_); refine box_event ?hg (N := 9) ?hd (cs := #[.int .i64 0, .string (⟨#[]⟩ : ByteArray), .int .i64 0, .int .i64 0, .string (⟨#[]⟩ : ByteArray), .slice none 0 0]) (t := 40) ?hr ?_; (case hd => rfl); (case hg => rfl); (case hr => first | (go_simp; done) | (go_simp; rfl)); intro gb102 hg w10 hbox hb; have n0_ := Aside0.mk (below_step (by repeat (first | (with_reducible first | exact HB.out | apply below_alloc | apply pw_below_drewN | apply below_drew1) | exact HB.out)) hb); have n1_ := Aside0.mk (hbox); have n2_ := Aside0.mk ((by rw [hg]; exact (below_size (by repeat (first | (with_reducible first | exact HB.out | apply below_alloc | apply pw_below_drewN | apply below_drew1) | exact HB.out))) : w.heap.size ≤ gb102)); have n3_ := Aside0.mk ((by rw [hg]; exact (below_size (by repeat (first | (with_reducible first | exact HB.out | apply below_alloc | apply pw_below_drewN | apply below_drew1) | exact HB.out))) : w.heap.size ≤ gb102)); clear HB; have HB := n0_; have BK102 := n1_; have GW102 := n2_; have GE102 := n3_; clear n0_ n1_ n2_ n3_; clear hb hbox hg; have hcz11_0 : w10.cell? ⟨gb102, 0, none⟩ = some (.int .i64 0) := (blk_cell BK102.out 0).trans rfl; have hcz11_1 : w10.cell? ⟨gb102, 1, none⟩ = some (.string (⟨#[]⟩ : ByteArray)) := (blk_cell BK102.out 1).trans rfl; have hcz11_2 : w10.cell? ⟨gb102, 2, none⟩ = some (.int .i64 0) := (blk_cell BK102.out 2).trans rfl; have hcz11_3 : w10.cell? ⟨gb102, 3, none⟩ = some (.int .i64 0) := (blk_cell BK102.out 3).trans rfl; have hcz11_4 : w10.cell? ⟨gb102, 4, none⟩ = some (.string (⟨#[]⟩ : ByteArray)) := (blk_cell BK102.out 4).trans rfl; have hcz11_5 : w10.cell? ⟨gb102, 5, none⟩ = some (.slice none 0 0) := (blk_cell BK102.out 5).trans rfl; have hfz11_0 := blk_frozen BK102.out 0; have hfz11_1 := blk_frozen BK102.out 1; have hfz11_2 := blk_frozen BK102.out 2; have hfz11_3 := blk_frozen BK102.out 3; have hfz11_4 := blk_frozen BK102.out 4; have hfz11_5 := blk_frozen BK102.out 5) | ((with_reducible refine gate_callee (f := 121) rfl ?_); refine goesL_ (some 26) rfl rfl Tryd.func121 (by kernel_rfl) rfl #[.int .i64 ((rd_T40 l0 x19_1).f0)] rfl (by (try simp only [List.map_toArray, List.map_cons, List.map_nil]); first | done | rfl | (simp only [List.length_drop, List.length_take]; rfl)) ?_; (with_reducible refine (rung_named.calls k1 ((rd_T40 l0 x19_1).f0) t103 t104 t105 t106 _ A8.out).mono ?_); rintro e w' ⟨rfl, ⟨nd, rfl⟩⟩; refine ⟨_, rfl, ?_⟩))
       (try simp only [Act.put, List.setIfInBounds_toArray, List.set_cons_zero, List.set_cons_succ])
       go_cut [31] (fun v31 wc => ∃ (kq : Nat) (x31_8 : Bool), v31 = .bool x31_8 ∧ Aside0 (rung_codeN.j1 kq l1 l2 x7_1 t103 t104 t105 l0 (l0.length : Int) x19_1 x31_8 ((rd_T40 l0 x19_1).f0) ((rd_T40 l0 x19_1).f1) ((rd_T40 l0 x19_1).f2.f0) ((rd_T40 l0 x19_1).f2.f1) ((rd_T40 l0 x19_1).f2.f2) ((rd_T40 l0 x19_1).f2.f3) = some r) ∧ Aside0 (kq ≤ k1) ∧ Aside0 (wc.heap[gb102]? = some (.cells #[.int .i64 ((rd_T40 l0 x19_1).f0), .string ((rd_T40 l0 x19_1).f1), .int .i64 ((rd_T40 l0 x19_1).f2.f0), .int .i64 ((rd_T40 l0 x19_1).f2.f1), .string ((rd_T40 l0 x19_1).f2.f2), (.slice A101_5 ((rd_T40 l0 x19_1).f2.f3).length c101_5)] 40 (0, 0))) ∧ Aside0 (Below w.heap.size w wc))
       case first =>
        have H := HC9.out
        clear HC9
        by_cases c12 : t106 = true
        ·subst c12
         have H1 : (if t103 = true then (if ((rd_T40 l0 x19_1).f0) = 2 then (rung_codeN.j1 k1 l1 l2 x7_1 t103 t104 t105 l0 (l0.length : Int) x19_1 false ((rd_T40 l0 x19_1).f0) ((rd_T40 l0 x19_1).f1) ((rd_T40 l0 x19_1).f2.f0) ((rd_T40 l0 x19_1).f2.f1) ((rd_T40 l0 x19_1).f2.f2) ((rd_T40 l0 x19_1).f2.f3)) else ((rung_blank.f ((rd_T40 l0 x19_1).f2.f0) ((rd_T40 l0 x19_1).f2.f1) ((rd_T40 l0 x19_1).f2.f2) ((rd_T40 l0 x19_1).f2.f3)).bind fun t107 => (rung_codeN.j1 k1 l1 l2 x7_1 t103 t104 t105 l0 (l0.length : Int) x19_1 (!t107) ((rd_T40 l0 x19_1).f0) ((rd_T40 l0 x19_1).f1) ((rd_T40 l0 x19_1).f2.f0) ((rd_T40 l0 x19_1).f2.f1) ((rd_T40 l0 x19_1).f2.f2) ((rd_T40 l0 x19_1).f2.f3)))) else (if ((rd_T40 l0 x19_1).f1).toList = ([] : List UInt8) then (if ((rd_T40 l0 x19_1).f0) = 2 then (rung_codeN.j1 k1 l1 l2 x7_1 t103 t104 t105 l0 (l0.length : Int) x19_1 false ((rd_T40 l0 x19_1).f0) ((rd_T40 l0 x19_1).f1) ((rd_T40 l0 x19_1).f2.f0) ((rd_T40 l0 x19_1).f2.f1) ((rd_T40 l0 x19_1).f2.f2) ((rd_T40 l0 x19_1).f2.f3)) else ((rung_blank.f ((rd_T40 l0 x19_1).f2.f0) ((rd_T40 l0 x19_1).f2.f1) ((rd_T40 l0 x19_1).f2.f2) ((rd_T40 l0 x19_1).f2.f3)).bind fun t108 => (rung_codeN.j1 k1 l1 l2 x7_1 t103 t104 t105 l0 (l0.length : Int) x19_1 (!t108) ((rd_T40 l0 x19_1).f0) ((rd_T40 l0 x19_1).f1) ((rd_T40 l0 x19_1).f2.f0) ((rd_T40 l0 x19_1).f2.f1) ((rd_T40 l0 x19_1).f2.f2) ((rd_T40 l0 x19_1).f2.f3)))) else (rung_codeN.j1 k1 l1 l2 x7_1 t103 t104 t105 l0 (l0.length : Int) x19_1 (((rd_T40 l0 x19_1).f1).toList != ([] : List UInt8)) ((rd_T40 l0 x19_1).f0) ((rd_T40 l0 x19_1).f1) ((rd_T40 l0 x19_1).f2.f0) ((rd_T40 l0 x19_1).f2.f1) ((rd_T40 l0 x19_1).f2.f2) ((rd_T40 l0 x19_1).f2.f3)))) = some r := by rw [if_pos rfl] at H; exact H
         clear H
         have H := H1
         clear H1
         by_cases c13 : t103 = true
         ·subst c13
          have H1 : (if ((rd_T40 l0 x19_1).f0) = 2 then (rung_codeN.j1 k1 l1 l2 x7_1 true t104 t105 l0 (l0.length : Int) x19_1 false ((rd_T40 l0 x19_1).f0) ((rd_T40 l0 x19_1).f1) ((rd_T40 l0 x19_1).f2.f0) ((rd_T40 l0 x19_1).f2.f1) ((rd_T40 l0 x19_1).f2.f2) ((rd_T40 l0 x19_1).f2.f3)) else ((rung_blank.f ((rd_T40 l0 x19_1).f2.f0) ((rd_T40 l0 x19_1).f2.f1) ((rd_T40 l0 x19_1).f2.f2) ((rd_T40 l0 x19_1).f2.f3)).bind fun t107 => (rung_codeN.j1 k1 l1 l2 x7_1 true t104 t105 l0 (l0.length : Int) x19_1 (!t107) ((rd_T40 l0 x19_1).f0) ((rd_T40 l0 x19_1).f1) ((rd_T40 l0 x19_1).f2.f0) ((rd_T40 l0 x19_1).f2.f1) ((rd_T40 l0 x19_1).f2.f2) ((rd_T40 l0 x19_1).f2.f3)))) = some r := by rw [if_pos rfl] at H; exact H
          clear H
          have H := H1
          clear H1
          by_cases c14 : ((rd_T40 l0 x19_1).f0) = 2
          ·rw [if_pos c14] at H
           have c14b0 : (((rd_T40 l0 x19_1).f0) == 2) = true := beq_iff_eq.mpr c14
           have c14b1 : (((rd_T40 l0 x19_1).f0) != 2) = false := bne_eq_false_iff_eq.mpr c14
           clear c14
           (first | rw [c14b0] | (simp only [i64_w, i32_w]; rw [c14b0]) | skip)
           have H' := Aside0.mk H
           clear H
           have hcz15_0 : w10.cell? ⟨gb102, 0, none⟩ = some (.int .i64 0) := (blk_cell BK102.out 0).trans rfl
           have hcz15_1 : w10.cell? ⟨gb102, 1, none⟩ = some (.string (⟨#[]⟩ : ByteArray)) := (blk_cell BK102.out 1).trans rfl
           have hcz15_2 : w10.cell? ⟨gb102, 2, none⟩ = some (.int .i64 0) := (blk_cell BK102.out 2).trans rfl
           have hcz15_3 : w10.cell? ⟨gb102, 3, none⟩ = some (.int .i64 0) := (blk_cell BK102.out 3).trans rfl
           have hcz15_4 : w10.cell? ⟨gb102, 4, none⟩ = some (.string (⟨#[]⟩ : ByteArray)) := (blk_cell BK102.out 4).trans rfl
           have hcz15_5 : w10.cell? ⟨gb102, 5, none⟩ = some (.slice none 0 0) := (blk_cell BK102.out 5).trans rfl
           have hfz15_0 := blk_frozen BK102.out 0
           have hfz15_1 := blk_frozen BK102.out 1
           have hfz15_2 := blk_frozen BK102.out 2
           have hfz15_3 := blk_frozen BK102.out 3
           have hfz15_4 := blk_frozen BK102.out 4
           have hfz15_5 := blk_frozen BK102.out 5
           go_wp2
           go_meet
           case rel => exact ⟨_, (false), (by first | rfl | (simp; done) | (simp [*]; done)), H', ⟨by have := HK1.out; first | omega | exact Nat.le_refl _⟩, ⟨by (with_reducible repeat (first | refine blk_drewN ?_ _ | refine blk_drew ?_ | refine blk_alloc ?_ _)); refine blk_put (cs := #[.int .i64 ((rd_T40 l0 x19_1).f0), .string ((rd_T40 l0 x19_1).f1), .int .i64 ((rd_T40 l0 x19_1).f2.f0), .int .i64 ((rd_T40 l0 x19_1).f2.f1), .string ((rd_T40 l0 x19_1).f2.f2), .slice none 0 0]) ?_ 5 _ rfl; (with_reducible repeat (first | refine blk_drewN ?_ _ | refine blk_drew ?_ | refine blk_alloc ?_ _)); refine blk_put (cs := #[.int .i64 ((rd_T40 l0 x19_1).f0), .string ((rd_T40 l0 x19_1).f1), .int .i64 ((rd_T40 l0 x19_1).f2.f0), .int .i64 ((rd_T40 l0 x19_1).f2.f1), .string (⟨#[]⟩ : ByteArray), .slice none 0 0]) ?_ 4 _ rfl; (with_reducible repeat (first | refine blk_drewN ?_ _ | refine blk_drew ?_ | refine blk_alloc ?_ _)); refine blk_put (cs := #[.int .i64 ((rd_T40 l0 x19_1).f0), .string ((rd_T40 l0 x19_1).f1), .int .i64 ((rd_T40 l0 x19_1).f2.f0), .int .i64 0, .string (⟨#[]⟩ : ByteArray), .slice none 0 0]) ?_ 3 _ rfl; (with_reducible repeat (first | refine blk_drewN ?_ _ | refine blk_drew ?_ | refine blk_alloc ?_ _)); refine blk_put (cs := #[.int .i64 ((rd_T40 l0 x19_1).f0), .string ((rd_T40 l0 x19_1).f1), .int .i64 0, .int .i64 0, .string (⟨#[]⟩ : ByteArray), .slice none 0 0]) ?_ 2 _ rfl; (with_reducible repeat (first | refine blk_drewN ?_ _ | refine blk_drew ?_ | refine blk_alloc ?_ _)); refine blk_put (cs := #[.int .i64 ((rd_T40 l0 x19_1).f0), .string (⟨#[]⟩ : ByteArray), .int .i64 0, .int .i64 0, .string (⟨#[]⟩ : ByteArray), .slice none 0 0]) ?_ 1 _ rfl; (with_reducible repeat (first | refine blk_drewN ?_ _ | refine blk_drew ?_ | refine blk_alloc ?_ _)); refine blk_put (cs := #[.int .i64 0, .string (⟨#[]⟩ : ByteArray), .int .i64 0, .int .i64 0, .string (⟨#[]⟩ : ByteArray), .slice none 0 0]) ?_ 0 _ rfl; (with_reducible repeat (first | refine blk_drewN ?_ _ | refine blk_drew ?_ | refine blk_alloc ?_ _)); exact BK102.out⟩, ⟨by repeat (first | (with_reducible first | exact HB.out | apply below_alloc | apply pw_below_drewN | apply below_drew1 | refine below_set ?_ GE102.out) | exact HB.out)⟩⟩
          ·rw [if_neg c14] at H
           have c14b0 : (((rd_T40 l0 x19_1).f0) == 2) = false := beq_eq_false_iff_ne.mpr c14
           have c14b1 : (((rd_T40 l0 x19_1).f0) != 2) = true := bne_iff_ne.mpr c14
           (first | rw [c14b0] | (simp only [i64_w, i32_w]; rw [c14b0]) | skip)
           replace H := Option.bind_eq_some_iff.mp H
           obtain ⟨t107, A160, H⟩ := H
           replace H : (rung_codeN.j1 k1 l1 l2 x7_1 true t104 t105 l0 (l0.length : Int) x19_1 (!t107) ((rd_T40 l0 x19_1).f0) ((rd_T40 l0 x19_1).f1) ((rd_T40 l0 x19_1).f2.f0) ((rd_T40 l0 x19_1).f2.f1) ((rd_T40 l0 x19_1).f2.f2) ((rd_T40 l0 x19_1).f2.f3)) = some r := H
           have A16 := Aside0.mk A160
           clear A160
           have H' := Aside0.mk H
           clear H
           have hcz17_0 : w10.cell? ⟨gb102, 0, none⟩ = some (.int .i64 0) := (blk_cell BK102.out 0).trans rfl
           have hcz17_1 : w10.cell? ⟨gb102, 1, none⟩ = some (.string (⟨#[]⟩ : ByteArray)) := (blk_cell BK102.out 1).trans rfl
           have hcz17_2 : w10.cell? ⟨gb102, 2, none⟩ = some (.int .i64 0) := (blk_cell BK102.out 2).trans rfl
           have hcz17_3 : w10.cell? ⟨gb102, 3, none⟩ = some (.int .i64 0) := (blk_cell BK102.out 3).trans rfl
           have hcz17_4 : w10.cell? ⟨gb102, 4, none⟩ = some (.string (⟨#[]⟩ : ByteArray)) := (blk_cell BK102.out 4).trans rfl
           have hcz17_5 : w10.cell? ⟨gb102, 5, none⟩ = some (.slice none 0 0) := (blk_cell BK102.out 5).trans rfl
           have hfz17_0 := blk_frozen BK102.out 0
           have hfz17_1 := blk_frozen BK102.out 1
           have hfz17_2 := blk_frozen BK102.out 2
           have hfz17_3 := blk_frozen BK102.out 3
           have hfz17_4 := blk_frozen BK102.out 4
           have hfz17_5 := blk_frozen BK102.out 5
           go_wp2_with (first | (go_at_call 122; (with_reducible refine (rung_blank.calls ((rd_T40 l0 x19_1).f2.f0) ((rd_T40 l0 x19_1).f2.f1) ((rd_T40 l0 x19_1).f2.f2) _ _ ((rd_T40 l0 x19_1).f2.f3) t107 _ ?side1 ?side2 A16.out).mono ?_); (case side1 => exact Kd.C_below HR101_5.out (by repeat (first | (with_reducible first | exact HB.out | apply below_alloc | apply pw_below_drewN | apply below_drew1 | refine below_set ?_ GE102.out) | exact HB.out))); (case side2 => exact HC101_5.out); rintro e w18 ⟨rfl, hb⟩; have n0_ := Aside0.mk (blk_below (g := gb102) (o := .cells #[.int .i64 ((rd_T40 l0 x19_1).f0), .string ((rd_T40 l0 x19_1).f1), .int .i64 ((rd_T40 l0 x19_1).f2.f0), .int .i64 ((rd_T40 l0 x19_1).f2.f1), .string ((rd_T40 l0 x19_1).f2.f2), .slice A101_5 ((rd_T40 l0 x19_1).f2.f3).length c101_5] 40 (0, 0)) (by (with_reducible repeat (first | refine blk_drewN ?_ _ | refine blk_drew ?_ | refine blk_alloc ?_ _)); refine blk_put (cs := #[.int .i64 ((rd_T40 l0 x19_1).f0), .string ((rd_T40 l0 x19_1).f1), .int .i64 ((rd_T40 l0 x19_1).f2.f0), .int .i64 ((rd_T40 l0 x19_1).f2.f1), .string ((rd_T40 l0 x19_1).f2.f2), .slice none 0 0]) ?_ 5 _ rfl; (with_reducible repeat (first | refine blk_drewN ?_ _ | refine blk_drew ?_ | refine blk_alloc ?_ _)); refine blk_put (cs := #[.int .i64 ((rd_T40 l0 x19_1).f0), .string ((rd_T40 l0 x19_1).f1), .int .i64 ((rd_T40 l0 x19_1).f2.f0), .int .i64 ((rd_T40 l0 x19_1).f2.f1), .string (⟨#[]⟩ : ByteArray), .slice none 0 0]) ?_ 4 _ rfl; (with_reducible repeat (first | refine blk_drewN ?_ _ | refine blk_drew ?_ | refine blk_alloc ?_ _)); refine blk_put (cs := #[.int .i64 ((rd_T40 l0 x19_1).f0), .string ((rd_T40 l0 x19_1).f1), .int .i64 ((rd_T40 l0 x19_1).f2.f0), .int .i64 0, .string (⟨#[]⟩ : ByteArray), .slice none 0 0]) ?_ 3 _ rfl; (with_reducible repeat (first | refine blk_drewN ?_ _ | refine blk_drew ?_ | refine blk_alloc ?_ _)); refine blk_put (cs := #[.int .i64 ((rd_T40 l0 x19_1).f0), .string ((rd_T40 l0 x19_1).f1), .int .i64 0, .int .i64 0, .string (⟨#[]⟩ : ByteArray), .slice none 0 0]) ?_ 2 _ rfl; (with_reducible repeat (first | refine blk_drewN ?_ _ | refine blk_drew ?_ | refine blk_alloc ?_ _)); refine blk_put (cs := #[.int .i64 ((rd_T40 l0 x19_1).f0), .string (⟨#[]⟩ : ByteArray), .int .i64 0, .int .i64 0, .string (⟨#[]⟩ : ByteArray), .slice none 0 0]) ?_ 1 _ rfl; (with_reducible repeat (first | refine blk_drewN ?_ _ | refine blk_drew ?_ | refine blk_alloc ?_ _)); refine blk_put (cs := #[.int .i64 0, .string (⟨#[]⟩ : ByteArray), .int .i64 0, .int .i64 0, .string (⟨#[]⟩ : ByteArray), .slice none 0 0]) ?_ 0 _ rfl; (with_reducible repeat (first | refine blk_drewN ?_ _ | refine blk_drew ?_ | refine blk_alloc ?_ _)); exact BK102.out) hb); have n1_ := Aside0.mk (below_step (by repeat (first | (with_reducible first | exact HB.out | apply below_alloc | apply pw_below_drewN | apply below_drew1 | refine below_set ?_ GE102.out) | exact HB.out)) hb); clear BK102; clear HB; have BK102 := n0_; have HB := n1_; clear n0_ n1_; (try clear hb); (try clear hb2); (try clear hk); (try clear hi)))
           go_meet
           case rel => exact ⟨_, (!t107), (by first | rfl | (simp; done) | (simp [*]; done)), H', ⟨by have := HK1.out; first | omega | exact Nat.le_refl _⟩, ⟨by (with_reducible repeat (first | refine blk_drewN ?_ _ | refine blk_drew ?_ | refine blk_alloc ?_ _)); exact BK102.out⟩, ⟨by repeat (first | (with_reducible first | exact HB.out | apply below_alloc | apply pw_below_drewN | apply below_drew1 | refine below_set ?_ GE102.out) | exact HB.out)⟩⟩
         ·replace c13 := Bool.eq_false_iff.mpr c13
          subst c13
          have H1 : (if ((rd_T40 l0 x19_1).f1).toList = ([] : List UInt8) then (if ((rd_T40 l0 x19_1).f0) = 2 then (rung_codeN.j1 k1 l1 l2 x7_1 false t104 t105 l0 (l0.length : Int) x19_1 false ((rd_T40 l0 x19_1).f0) ((rd_T40 l0 x19_1).f1) ((rd_T40 l0 x19_1).f2.f0) ((rd_T40 l0 x19_1).f2.f1) ((rd_T40 l0 x19_1).f2.f2) ((rd_T40 l0 x19_1).f2.f3)) else ((rung_blank.f ((rd_T40 l0 x19_1).f2.f0) ((rd_T40 l0 x19_1).f2.f1) ((rd_T40 l0 x19_1).f2.f2) ((rd_T40 l0 x19_1).f2.f3)).bind fun t108 => (rung_codeN.j1 k1 l1 l2 x7_1 false t104 t105 l0 (l0.length : Int) x19_1 (!t108) ((rd_T40 l0 x19_1).f0) ((rd_T40 l0 x19_1).f1) ((rd_T40 l0 x19_1).f2.f0) ((rd_T40 l0 x19_1).f2.f1) ((rd_T40 l0 x19_1).f2.f2) ((rd_T40 l0 x19_1).f2.f3)))) else (rung_codeN.j1 k1 l1 l2 x7_1 false t104 t105 l0 (l0.length : Int) x19_1 (((rd_T40 l0 x19_1).f1).toList != ([] : List UInt8)) ((rd_T40 l0 x19_1).f0) ((rd_T40 l0 x19_1).f1) ((rd_T40 l0 x19_1).f2.f0) ((rd_T40 l0 x19_1).f2.f1) ((rd_T40 l0 x19_1).f2.f2) ((rd_T40 l0 x19_1).f2.f3))) = some r := by rw [if_neg (show ¬ (false = true) by decide)] at H; exact H
          clear H
          have H := H1
          clear H1
          by_cases c19 : ((rd_T40 l0 x19_1).f1).toList = ([] : List UInt8)
          ·rw [if_pos c19] at H
           have c19b0 : (((rd_T40 l0 x19_1).f1).toList == ([] : List UInt8)) = true := beq_iff_eq.mpr c19
           have c19b1 : (((rd_T40 l0 x19_1).f1).toList != ([] : List UInt8)) = false := bne_eq_false_iff_eq.mpr c19
           clear c19
           by_cases c20 : ((rd_T40 l0 x19_1).f0) = 2
           ·rw [if_pos c20] at H
            have c20b0 : (((rd_T40 l0 x19_1).f0) == 2) = true := beq_iff_eq.mpr c20
            have c20b1 : (((rd_T40 l0 x19_1).f0) != 2) = false := bne_eq_false_iff_eq.mpr c20
            clear c20
            have H' := Aside0.mk H
            clear H
            have hcz21_0 : w10.cell? ⟨gb102, 0, none⟩ = some (.int .i64 0) := (blk_cell BK102.out 0).trans rfl
            have hcz21_1 : w10.cell? ⟨gb102, 1, none⟩ = some (.string (⟨#[]⟩ : ByteArray)) := (blk_cell BK102.out 1).trans rfl
            have hcz21_2 : w10.cell? ⟨gb102, 2, none⟩ = some (.int .i64 0) := (blk_cell BK102.out 2).trans rfl
            have hcz21_3 : w10.cell? ⟨gb102, 3, none⟩ = some (.int .i64 0) := (blk_cell BK102.out 3).trans rfl
            have hcz21_4 : w10.cell? ⟨gb102, 4, none⟩ = some (.string (⟨#[]⟩ : ByteArray)) := (blk_cell BK102.out 4).trans rfl
            have hcz21_5 : w10.cell? ⟨gb102, 5, none⟩ = some (.slice none 0 0) := (blk_cell BK102.out 5).trans rfl
            have hfz21_0 := blk_frozen BK102.out 0
            have hfz21_1 := blk_frozen BK102.out 1
            have hfz21_2 := blk_frozen BK102.out 2
            have hfz21_3 := blk_frozen BK102.out 3
            have hfz21_4 := blk_frozen BK102.out 4
            have hfz21_5 := blk_frozen BK102.out 5
            go_wp2
            go_meet
            case rel => exact ⟨_, (false), (by first | rfl | (simp; done) | (simp [*]; done)), H', ⟨by have := HK1.out; first | omega | exact Nat.le_refl _⟩, ⟨by (with_reducible repeat (first | refine blk_drewN ?_ _ | refine blk_drew ?_ | refine blk_alloc ?_ _)); refine blk_put (cs := #[.int .i64 ((rd_T40 l0 x19_1).f0), .string ((rd_T40 l0 x19_1).f1), .int .i64 ((rd_T40 l0 x19_1).f2.f0), .int .i64 ((rd_T40 l0 x19_1).f2.f1), .string ((rd_T40 l0 x19_1).f2.f2), .slice none 0 0]) ?_ 5 _ rfl; (with_reducible repeat (first | refine blk_drewN ?_ _ | refine blk_drew ?_ | refine blk_alloc ?_ _)); refine blk_put (cs := #[.int .i64 ((rd_T40 l0 x19_1).f0), .string ((rd_T40 l0 x19_1).f1), .int .i64 ((rd_T40 l0 x19_1).f2.f0), .int .i64 ((rd_T40 l0 x19_1).f2.f1), .string (⟨#[]⟩ : ByteArray), .slice none 0 0]) ?_ 4 _ rfl; (with_reducible repeat (first | refine blk_drewN ?_ _ | refine blk_drew ?_ | refine blk_alloc ?_ _)); refine blk_put (cs := #[.int .i64 ((rd_T40 l0 x19_1).f0), .string ((rd_T40 l0 x19_1).f1), .int .i64 ((rd_T40 l0 x19_1).f2.f0), .int .i64 0, .string (⟨#[]⟩ : ByteArray), .slice none 0 0]) ?_ 3 _ rfl; (with_reducible repeat (first | refine blk_drewN ?_ _ | refine blk_drew ?_ | refine blk_alloc ?_ _)); refine blk_put (cs := #[.int .i64 ((rd_T40 l0 x19_1).f0), .string ((rd_T40 l0 x19_1).f1), .int .i64 0, .int .i64 0, .string (⟨#[]⟩ : ByteArray), .slice none 0 0]) ?_ 2 _ rfl; (with_reducible repeat (first | refine blk_drewN ?_ _ | refine blk_drew ?_ | refine blk_alloc ?_ _)); refine blk_put (cs := #[.int .i64 ((rd_T40 l0 x19_1).f0), .string (⟨#[]⟩ : ByteArray), .int .i64 0, .int .i64 0, .string (⟨#[]⟩ : ByteArray), .slice none 0 0]) ?_ 1 _ rfl; (with_reducible repeat (first | refine blk_drewN ?_ _ | refine blk_drew ?_ | refine blk_alloc ?_ _)); refine blk_put (cs := #[.int .i64 0, .string (⟨#[]⟩ : ByteArray), .int .i64 0, .int .i64 0, .string (⟨#[]⟩ : ByteArray), .slice none 0 0]) ?_ 0 _ rfl; (with_reducible repeat (first | refine blk_drewN ?_ _ | refine blk_drew ?_ | refine blk_alloc ?_ _)); exact BK102.out⟩, ⟨by repeat (first | (with_reducible first | exact HB.out | apply below_alloc | apply pw_below_drewN | apply below_drew1 | refine below_set ?_ GE102.out) | exact HB.out)⟩⟩
           ·rw [if_neg c20] at H
            have c20b0 : (((rd_T40 l0 x19_1).f0) == 2) = false := beq_eq_false_iff_ne.mpr c20
            have c20b1 : (((rd_T40 l0 x19_1).f0) != 2) = true := bne_iff_ne.mpr c20
            replace H := Option.bind_eq_some_iff.mp H
            obtain ⟨t108, A220, H⟩ := H
            replace H : (rung_codeN.j1 k1 l1 l2 x7_1 false t104 t105 l0 (l0.length : Int) x19_1 (!t108) ((rd_T40 l0 x19_1).f0) ((rd_T40 l0 x19_1).f1) ((rd_T40 l0 x19_1).f2.f0) ((rd_T40 l0 x19_1).f2.f1) ((rd_T40 l0 x19_1).f2.f2) ((rd_T40 l0 x19_1).f2.f3)) = some r := H
            have A22 := Aside0.mk A220
            clear A220
            have H' := Aside0.mk H
            clear H
            have hcz23_0 : w10.cell? ⟨gb102, 0, none⟩ = some (.int .i64 0) := (blk_cell BK102.out 0).trans rfl
            have hcz23_1 : w10.cell? ⟨gb102, 1, none⟩ = some (.string (⟨#[]⟩ : ByteArray)) := (blk_cell BK102.out 1).trans rfl
            have hcz23_2 : w10.cell? ⟨gb102, 2, none⟩ = some (.int .i64 0) := (blk_cell BK102.out 2).trans rfl
            have hcz23_3 : w10.cell? ⟨gb102, 3, none⟩ = some (.int .i64 0) := (blk_cell BK102.out 3).trans rfl
            have hcz23_4 : w10.cell? ⟨gb102, 4, none⟩ = some (.string (⟨#[]⟩ : ByteArray)) := (blk_cell BK102.out 4).trans rfl
            have hcz23_5 : w10.cell? ⟨gb102, 5, none⟩ = some (.slice none 0 0) := (blk_cell BK102.out 5).trans rfl
            have hfz23_0 := blk_frozen BK102.out 0
            have hfz23_1 := blk_frozen BK102.out 1
            have hfz23_2 := blk_frozen BK102.out 2
            have hfz23_3 := blk_frozen BK102.out 3
            have hfz23_4 := blk_frozen BK102.out 4
            have hfz23_5 := blk_frozen BK102.out 5
            go_wp2_with (first | (go_at_call 122; (with_reducible refine (rung_blank.calls ((rd_T40 l0 x19_1).f2.f0) ((rd_T40 l0 x19_1).f2.f1) ((rd_T40 l0 x19_1).f2.f2) _ _ ((rd_T40 l0 x19_1).f2.f3) t108 _ ?side1 ?side2 A22.out).mono ?_); (case side1 => exact Kd.C_below HR101_5.out (by repeat (first | (with_reducible first | exact HB.out | apply below_alloc | apply pw_below_drewN | apply below_drew1 | refine below_set ?_ GE102.out) | exact HB.out))); (case side2 => exact HC101_5.out); rintro e w24 ⟨rfl, hb⟩; have n0_ := Aside0.mk (blk_below (g := gb102) (o := .cells #[.int .i64 ((rd_T40 l0 x19_1).f0), .string ((rd_T40 l0 x19_1).f1), .int .i64 ((rd_T40 l0 x19_1).f2.f0), .int .i64 ((rd_T40 l0 x19_1).f2.f1), .string ((rd_T40 l0 x19_1).f2.f2), .slice A101_5 ((rd_T40 l0 x19_1).f2.f3).length c101_5] 40 (0, 0)) (by (with_reducible repeat (first | refine blk_drewN ?_ _ | refine blk_drew ?_ | refine blk_alloc ?_ _)); refine blk_put (cs := #[.int .i64 ((rd_T40 l0 x19_1).f0), .string ((rd_T40 l0 x19_1).f1), .int .i64 ((rd_T40 l0 x19_1).f2.f0), .int .i64 ((rd_T40 l0 x19_1).f2.f1), .string ((rd_T40 l0 x19_1).f2.f2), .slice none 0 0]) ?_ 5 _ rfl; (with_reducible repeat (first | refine blk_drewN ?_ _ | refine blk_drew ?_ | refine blk_alloc ?_ _)); refine blk_put (cs := #[.int .i64 ((rd_T40 l0 x19_1).f0), .string ((rd_T40 l0 x19_1).f1), .int .i64 ((rd_T40 l0 x19_1).f2.f0), .int .i64 ((rd_T40 l0 x19_1).f2.f1), .string (⟨#[]⟩ : ByteArray), .slice none 0 0]) ?_ 4 _ rfl; (with_reducible repeat (first | refine blk_drewN ?_ _ | refine blk_drew ?_ | refine blk_alloc ?_ _)); refine blk_put (cs := #[.int .i64 ((rd_T40 l0 x19_1).f0), .string ((rd_T40 l0 x19_1).f1), .int .i64 ((rd_T40 l0 x19_1).f2.f0), .int .i64 0, .string (⟨#[]⟩ : ByteArray), .slice none 0 0]) ?_ 3 _ rfl; (with_reducible repeat (first | refine blk_drewN ?_ _ | refine blk_drew ?_ | refine blk_alloc ?_ _)); refine blk_put (cs := #[.int .i64 ((rd_T40 l0 x19_1).f0), .string ((rd_T40 l0 x19_1).f1), .int .i64 0, .int .i64 0, .string (⟨#[]⟩ : ByteArray), .slice none 0 0]) ?_ 2 _ rfl; (with_reducible repeat (first | refine blk_drewN ?_ _ | refine blk_drew ?_ | refine blk_alloc ?_ _)); refine blk_put (cs := #[.int .i64 ((rd_T40 l0 x19_1).f0), .string (⟨#[]⟩ : ByteArray), .int .i64 0, .int .i64 0, .string (⟨#[]⟩ : ByteArray), .slice none 0 0]) ?_ 1 _ rfl; (with_reducible repeat (first | refine blk_drewN ?_ _ | refine blk_drew ?_ | refine blk_alloc ?_ _)); refine blk_put (cs := #[.int .i64 0, .string (⟨#[]⟩ : ByteArray), .int .i64 0, .int .i64 0, .string (⟨#[]⟩ : ByteArray), .slice none 0 0]) ?_ 0 _ rfl; (with_reducible repeat (first | refine blk_drewN ?_ _ | refine blk_drew ?_ | refine blk_alloc ?_ _)); exact BK102.out) hb); have n1_ := Aside0.mk (below_step (by repeat (first | (with_reducible first | exact HB.out | apply below_alloc | apply pw_below_drewN | apply below_drew1 | refine below_set ?_ GE102.out) | exact HB.out)) hb); clear BK102; clear HB; have BK102 := n0_; have HB := n1_; clear n0_ n1_; (try clear hb); (try clear hb2); (try clear hk); (try clear hi)))
            go_meet
            case rel => exact ⟨_, (!t108), (by first | rfl | (simp; done) | (simp [*]; done)), H', ⟨by have := HK1.out; first | omega | exact Nat.le_refl _⟩, ⟨by (with_reducible repeat (first | refine blk_drewN ?_ _ | refine blk_drew ?_ | refine blk_alloc ?_ _)); exact BK102.out⟩, ⟨by repeat (first | (with_reducible first | exact HB.out | apply below_alloc | apply pw_below_drewN | apply below_drew1 | refine below_set ?_ GE102.out) | exact HB.out)⟩⟩
          ·rw [if_neg c19] at H
           have c19b0 : (((rd_T40 l0 x19_1).f1).toList == ([] : List UInt8)) = false := beq_eq_false_iff_ne.mpr c19
           have c19b1 : (((rd_T40 l0 x19_1).f1).toList != ([] : List UInt8)) = true := bne_iff_ne.mpr c19
           have H' := Aside0.mk H
           clear H
           have hcz25_0 : w10.cell? ⟨gb102, 0, none⟩ = some (.int .i64 0) := (blk_cell BK102.out 0).trans rfl
           have hcz25_1 : w10.cell? ⟨gb102, 1, none⟩ = some (.string (⟨#[]⟩ : ByteArray)) := (blk_cell BK102.out 1).trans rfl
           have hcz25_2 : w10.cell? ⟨gb102, 2, none⟩ = some (.int .i64 0) := (blk_cell BK102.out 2).trans rfl
           have hcz25_3 : w10.cell? ⟨gb102, 3, none⟩ = some (.int .i64 0) := (blk_cell BK102.out 3).trans rfl
           have hcz25_4 : w10.cell? ⟨gb102, 4, none⟩ = some (.string (⟨#[]⟩ : ByteArray)) := (blk_cell BK102.out 4).trans rfl
           have hcz25_5 : w10.cell? ⟨gb102, 5, none⟩ = some (.slice none 0 0) := (blk_cell BK102.out 5).trans rfl
           have hfz25_0 := blk_frozen BK102.out 0
           have hfz25_1 := blk_frozen BK102.out 1
           have hfz25_2 := blk_frozen BK102.out 2
           have hfz25_3 := blk_frozen BK102.out 3
           have hfz25_4 := blk_frozen BK102.out 4
           have hfz25_5 := blk_frozen BK102.out 5
           go_wp2
           go_meet
           case rel => exact ⟨_, ((((rd_T40 l0 x19_1).f1).toList != ([] : List UInt8))), (by first | rfl | (simp; done) | (simp [*]; done)), H', ⟨by have := HK1.out; first | omega | exact Nat.le_refl _⟩, ⟨by (with_reducible repeat (first | refine blk_drewN ?_ _ | refine blk_drew ?_ | refine blk_alloc ?_ _)); refine blk_put (cs := #[.int .i64 ((rd_T40 l0 x19_1).f0), .string ((rd_T40 l0 x19_1).f1), .int .i64 ((rd_T40 l0 x19_1).f2.f0), .int .i64 ((rd_T40 l0 x19_1).f2.f1), .string ((rd_T40 l0 x19_1).f2.f2), .slice none 0 0]) ?_ 5 _ rfl; (with_reducible repeat (first | refine blk_drewN ?_ _ | refine blk_drew ?_ | refine blk_alloc ?_ _)); refine blk_put (cs := #[.int .i64 ((rd_T40 l0 x19_1).f0), .string ((rd_T40 l0 x19_1).f1), .int .i64 ((rd_T40 l0 x19_1).f2.f0), .int .i64 ((rd_T40 l0 x19_1).f2.f1), .string (⟨#[]⟩ : ByteArray), .slice none 0 0]) ?_ 4 _ rfl; (with_reducible repeat (first | refine blk_drewN ?_ _ | refine blk_drew ?_ | refine blk_alloc ?_ _)); refine blk_put (cs := #[.int .i64 ((rd_T40 l0 x19_1).f0), .string ((rd_T40 l0 x19_1).f1), .int .i64 ((rd_T40 l0 x19_1).f2.f0), .int .i64 0, .string (⟨#[]⟩ : ByteArray), .slice none 0 0]) ?_ 3 _ rfl; (with_reducible repeat (first | refine blk_drewN ?_ _ | refine blk_drew ?_ | refine blk_alloc ?_ _)); refine blk_put (cs := #[.int .i64 ((rd_T40 l0 x19_1).f0), .string ((rd_T40 l0 x19_1).f1), .int .i64 0, .int .i64 0, .string (⟨#[]⟩ : ByteArray), .slice none 0 0]) ?_ 2 _ rfl; (with_reducible repeat (first | refine blk_drewN ?_ _ | refine blk_drew ?_ | refine blk_alloc ?_ _)); refine blk_put (cs := #[.int .i64 ((rd_T40 l0 x19_1).f0), .string (⟨#[]⟩ : ByteArray), .int .i64 0, .int .i64 0, .string (⟨#[]⟩ : ByteArray), .slice none 0 0]) ?_ 1 _ rfl; (with_reducible repeat (first | refine blk_drewN ?_ _ | refine blk_drew ?_ | refine blk_alloc ?_ _)); refine blk_put (cs := #[.int .i64 0, .string (⟨#[]⟩ : ByteArray), .int .i64 0, .int .i64 0, .string (⟨#[]⟩ : ByteArray), .slice none 0 0]) ?_ 0 _ rfl; (with_reducible repeat (first | refine blk_drewN ?_ _ | refine blk_drew ?_ | refine blk_alloc ?_ _)); exact BK102.out⟩, ⟨by repeat (first | (with_reducible first | exact HB.out | apply below_alloc | apply pw_below_drewN | apply below_drew1 | refine below_set ?_ GE102.out) | exact HB.out)⟩⟩
        ·replace c12 := Bool.eq_false_iff.mpr c12
         subst c12
         have H1 : (rung_codeN.j1 k1 l1 l2 x7_1 t103 t104 t105 l0 (l0.length : Int) x19_1 (!false) ((rd_T40 l0 x19_1).f0) ((rd_T40 l0 x19_1).f1) ((rd_T40 l0 x19_1).f2.f0) ((rd_T40 l0 x19_1).f2.f1) ((rd_T40 l0 x19_1).f2.f2) ((rd_T40 l0 x19_1).f2.f3)) = some r := by rw [if_neg (show ¬ (false = true) by decide)] at H; exact H
         clear H
         have H := H1
         clear H1
         have H' := Aside0.mk H
         clear H
         go_wp2
         go_meet
         case rel => exact ⟨_, (!false), (by first | rfl | (simp; done) | (simp [*]; done)), H', ⟨by have := HK1.out; first | omega | exact Nat.le_refl _⟩, ⟨by (with_reducible repeat (first | refine blk_drewN ?_ _ | refine blk_drew ?_ | refine blk_alloc ?_ _)); refine blk_put (cs := #[.int .i64 ((rd_T40 l0 x19_1).f0), .string ((rd_T40 l0 x19_1).f1), .int .i64 ((rd_T40 l0 x19_1).f2.f0), .int .i64 ((rd_T40 l0 x19_1).f2.f1), .string ((rd_T40 l0 x19_1).f2.f2), .slice none 0 0]) ?_ 5 _ rfl; (with_reducible repeat (first | refine blk_drewN ?_ _ | refine blk_drew ?_ | refine blk_alloc ?_ _)); refine blk_put (cs := #[.int .i64 ((rd_T40 l0 x19_1).f0), .string ((rd_T40 l0 x19_1).f1), .int .i64 ((rd_T40 l0 x19_1).f2.f0), .int .i64 ((rd_T40 l0 x19_1).f2.f1), .string (⟨#[]⟩ : ByteArray), .slice none 0 0]) ?_ 4 _ rfl; (with_reducible repeat (first | refine blk_drewN ?_ _ | refine blk_drew ?_ | refine blk_alloc ?_ _)); refine blk_put (cs := #[.int .i64 ((rd_T40 l0 x19_1).f0), .string ((rd_T40 l0 x19_1).f1), .int .i64 ((rd_T40 l0 x19_1).f2.f0), .int .i64 0, .string (⟨#[]⟩ : ByteArray), .slice none 0 0]) ?_ 3 _ rfl; (with_reducible repeat (first | refine blk_drewN ?_ _ | refine blk_drew ?_ | refine blk_alloc ?_ _)); refine blk_put (cs := #[.int .i64 ((rd_T40 l0 x19_1).f0), .string ((rd_T40 l0 x19_1).f1), .int .i64 0, .int .i64 0, .string (⟨#[]⟩ : ByteArray), .slice none 0 0]) ?_ 2 _ rfl; (with_reducible repeat (first | refine blk_drewN ?_ _ | refine blk_drew ?_ | refine blk_alloc ?_ _)); refine blk_put (cs := #[.int .i64 ((rd_T40 l0 x19_1).f0), .string (⟨#[]⟩ : ByteArray), .int .i64 0, .int .i64 0, .string (⟨#[]⟩ : ByteArray), .slice none 0 0]) ?_ 1 _ rfl; (with_reducible repeat (first | refine blk_drewN ?_ _ | refine blk_drew ?_ | refine blk_alloc ?_ _)); refine blk_put (cs := #[.int .i64 0, .string (⟨#[]⟩ : ByteArray), .int .i64 0, .int .i64 0, .string (⟨#[]⟩ : ByteArray), .slice none 0 0]) ?_ 0 _ rfl; (with_reducible repeat (first | refine blk_drewN ?_ _ | refine blk_drew ?_ | refine blk_alloc ?_ _)); exact BK102.out⟩, ⟨by repeat (first | (with_reducible first | exact HB.out | apply below_alloc | apply pw_below_drewN | apply below_drew1 | refine below_set ?_ GE102.out) | exact HB.out)⟩⟩
       case rest =>
        clear HC9
        obtain ⟨kq, x31_8, rfl, HA, HJ8, BK102, HB⟩ := hcut
        cases kq with
        | zero => exact absurd HA.out (by simp [rung_codeN.j1])
        | succ kj8 =>
         have H := HA.out
         clear HA
         simp only [rung_codeN.j1] at H
         by_cases c26 : x31_8 = true
         ·subst c26
          have H1 : (some 1) = some r := by rw [if_pos rfl] at H; exact H
          clear H
          have H := H1
          clear H1
          obtain rfl := Option.some.inj H
          go_wp2
          go_ret
          exact ⟨by first | rfl | (simp [errW_none, errW_some] <;> rfl) | (simp [*, errW_none, errW_some] <;> rfl), by repeat (first | (with_reducible first | exact HB.out | apply below_alloc | apply pw_below_drewN | apply below_drew1 | refine below_set ?_ GE102.out) | exact HB.out)⟩
         ·replace c26 := Bool.eq_false_iff.mpr c26
          subst c26
          have H1 : (if t103 = true then ((slices_Contains_string_string.f kj8 l1 ((rd_T40 l0 x19_1).f1)).bind fun t109 => (rung_codeN.j2 kj8 l1 l2 x7_1 t104 t105 l0 (l0.length : Int) x19_1 (!t109) ((rd_T40 l0 x19_1).f0) ((rd_T40 l0 x19_1).f1) ((rd_T40 l0 x19_1).f2.f0) ((rd_T40 l0 x19_1).f2.f1) ((rd_T40 l0 x19_1).f2.f2) ((rd_T40 l0 x19_1).f2.f3))) else (rung_codeN.j2 kj8 l1 l2 x7_1 t104 t105 l0 (l0.length : Int) x19_1 false ((rd_T40 l0 x19_1).f0) ((rd_T40 l0 x19_1).f1) ((rd_T40 l0 x19_1).f2.f0) ((rd_T40 l0 x19_1).f2.f1) ((rd_T40 l0 x19_1).f2.f2) ((rd_T40 l0 x19_1).f2.f3))) = some r := by rw [if_neg (show ¬ (false = true) by decide)] at H; exact H
          clear H
          have H := H1
          clear H1
          have HC27 := Aside0.mk H
          clear H
          go_upto_region 12 with (fail)
          go_cut [50] (fun v50 wc => ∃ (kq : Nat) (x50_26 : Bool), v50 = .bool x50_26 ∧ Aside0 (rung_codeN.j2 kq l1 l2 x7_1 t104 t105 l0 (l0.length : Int) x19_1 x50_26 ((rd_T40 l0 x19_1).f0) ((rd_T40 l0 x19_1).f1) ((rd_T40 l0 x19_1).f2.f0) ((rd_T40 l0 x19_1).f2.f1) ((rd_T40 l0 x19_1).f2.f2) ((rd_T40 l0 x19_1).f2.f3) = some r) ∧ Aside0 (kq ≤ kj8) ∧ Aside0 (wc.heap[gb102]? = some (.cells #[.int .i64 ((rd_T40 l0 x19_1).f0), .string ((rd_T40 l0 x19_1).f1), .int .i64 ((rd_T40 l0 x19_1).f2.f0), .int .i64 ((rd_T40 l0 x19_1).f2.f1), .string ((rd_T40 l0 x19_1).f2.f2), (.slice A101_5 ((rd_T40 l0 x19_1).f2.f3).length c101_5)] 40 (0, 0))) ∧ Aside0 (Below w.heap.size w wc))
          case first =>
           have H := HC27.out
           clear HC27
           by_cases c28 : t103 = true
           ·subst c28
            have H1 : ((slices_Contains_string_string.f kj8 l1 ((rd_T40 l0 x19_1).f1)).bind fun t109 => (rung_codeN.j2 kj8 l1 l2 x7_1 t104 t105 l0 (l0.length : Int) x19_1 (!t109) ((rd_T40 l0 x19_1).f0) ((rd_T40 l0 x19_1).f1) ((rd_T40 l0 x19_1).f2.f0) ((rd_T40 l0 x19_1).f2.f1) ((rd_T40 l0 x19_1).f2.f2) ((rd_T40 l0 x19_1).f2.f3))) = some r := by rw [if_pos rfl] at H; exact H
            clear H
            have H := H1
            clear H1
            replace H := Option.bind_eq_some_iff.mp H
            obtain ⟨t109, A290, H⟩ := H
            replace H : (rung_codeN.j2 kj8 l1 l2 x7_1 t104 t105 l0 (l0.length : Int) x19_1 (!t109) ((rd_T40 l0 x19_1).f0) ((rd_T40 l0 x19_1).f1) ((rd_T40 l0 x19_1).f2.f0) ((rd_T40 l0 x19_1).f2.f1) ((rd_T40 l0 x19_1).f2.f2) ((rd_T40 l0 x19_1).f2.f3)) = some r := H
            have A29 := Aside0.mk A290
            clear A290
            have H' := Aside0.mk H
            clear H
            have hcz30_0 : wc.cell? ⟨gb102, 0, none⟩ = some (.int .i64 ((rd_T40 l0 x19_1).f0)) := (blk_cell BK102.out 0).trans rfl
            have hcz30_1 : wc.cell? ⟨gb102, 1, none⟩ = some (.string ((rd_T40 l0 x19_1).f1)) := (blk_cell BK102.out 1).trans rfl
            have hcz30_2 : wc.cell? ⟨gb102, 2, none⟩ = some (.int .i64 ((rd_T40 l0 x19_1).f2.f0)) := (blk_cell BK102.out 2).trans rfl
            have hcz30_3 : wc.cell? ⟨gb102, 3, none⟩ = some (.int .i64 ((rd_T40 l0 x19_1).f2.f1)) := (blk_cell BK102.out 3).trans rfl
            have hcz30_4 : wc.cell? ⟨gb102, 4, none⟩ = some (.string ((rd_T40 l0 x19_1).f2.f2)) := (blk_cell BK102.out 4).trans rfl
            have hcz30_5 : wc.cell? ⟨gb102, 5, none⟩ = some (.slice A101_5 ((rd_T40 l0 x19_1).f2.f3).length c101_5) := (blk_cell BK102.out 5).trans rfl
            have hfz30_0 := blk_frozen BK102.out 0
            have hfz30_1 := blk_frozen BK102.out 1
            have hfz30_2 := blk_frozen BK102.out 2
            have hfz30_3 := blk_frozen BK102.out 3
            have hfz30_4 := blk_frozen BK102.out 4
            have hfz30_5 := blk_frozen BK102.out 5
            go_wp2_with (first | (go_at_call 61; (with_reducible refine (slices_Contains_string_string.calls kj8 _ _ l1 ((rd_T40 l0 x19_1).f1) t109 _ ?side1 ?side2 A29.out).mono ?_); (case side1 => repeat (first | exact (Kd.C_below HR1.out HB.out) | (with_reducible refine Kd.C_alloc ?_ _) | (with_reducible refine Kd.C_drewN ?_ _) | (with_reducible refine Kd.C_drew ?_))); (case side2 => exact HC1.out); rintro e w' ⟨rfl, ⟨nd, rfl⟩⟩))
            go_meet
            case rel => exact ⟨_, (!t109), (by first | rfl | (simp; done) | (simp [*]; done)), H', ⟨by have := HK1.out; have := HJ8.out; first | omega | exact Nat.le_refl _⟩, ⟨by (with_reducible repeat (first | refine blk_drewN ?_ _ | refine blk_drew ?_ | refine blk_alloc ?_ _)); exact BK102.out⟩, ⟨by repeat (first | (with_reducible first | exact HB.out | apply below_alloc | apply pw_below_drewN | apply below_drew1 | refine below_set ?_ GE102.out) | exact HB.out)⟩⟩
           ·replace c28 := Bool.eq_false_iff.mpr c28
            subst c28
            have H1 : (rung_codeN.j2 kj8 l1 l2 x7_1 t104 t105 l0 (l0.length : Int) x19_1 false ((rd_T40 l0 x19_1).f0) ((rd_T40 l0 x19_1).f1) ((rd_T40 l0 x19_1).f2.f0) ((rd_T40 l0 x19_1).f2.f1) ((rd_T40 l0 x19_1).f2.f2) ((rd_T40 l0 x19_1).f2.f3)) = some r := by rw [if_neg (show ¬ (false = true) by decide)] at H; exact H
            clear H
            have H := H1
            clear H1
            have H' := Aside0.mk H
            clear H
            go_wp2
            go_meet
            case rel => exact ⟨_, (false), (by first | rfl | (simp; done) | (simp [*]; done)), H', ⟨by have := HK1.out; have := HJ8.out; first | omega | exact Nat.le_refl _⟩, ⟨by (with_reducible repeat (first | refine blk_drewN ?_ _ | refine blk_drew ?_ | refine blk_alloc ?_ _)); exact BK102.out⟩, ⟨by repeat (first | (with_reducible first | exact HB.out | apply below_alloc | apply pw_below_drewN | apply below_drew1 | refine below_set ?_ GE102.out) | exact HB.out)⟩⟩
          case rest =>
           clear HC27
           obtain ⟨kq, x50_26, rfl, HA, HJ26, BK102, HB⟩ := hcut
           cases kq with
           | zero => exact absurd HA.out (by simp [rung_codeN.j2])
           | succ kj26 =>
            have H := HA.out
            clear HA
            simp only [rung_codeN.j2] at H
            have HC31 := Aside0.mk H
            clear H
            go_upto_if 50 with (fail)
            go_cut [50] (fun v50 wc => ∃ (kq : Nat) (x50_30 : Bool), v50 = .bool x50_30 ∧ Aside0 (rung_codeN.j3 kq l1 l2 x7_1 t104 t105 l0 (l0.length : Int) x19_1 x50_30 ((rd_T40 l0 x19_1).f0) ((rd_T40 l0 x19_1).f1) ((rd_T40 l0 x19_1).f2.f0) ((rd_T40 l0 x19_1).f2.f1) ((rd_T40 l0 x19_1).f2.f2) ((rd_T40 l0 x19_1).f2.f3) = some r) ∧ Aside0 (kq ≤ kj26) ∧ Aside0 (wc.heap[gb102]? = some (.cells #[.int .i64 ((rd_T40 l0 x19_1).f0), .string ((rd_T40 l0 x19_1).f1), .int .i64 ((rd_T40 l0 x19_1).f2.f0), .int .i64 ((rd_T40 l0 x19_1).f2.f1), .string ((rd_T40 l0 x19_1).f2.f2), (.slice A101_5 ((rd_T40 l0 x19_1).f2.f3).length c101_5)] 40 (0, 0))) ∧ Aside0 (Below w.heap.size w wc))
            case first =>
             have H := HC31.out
             clear HC31
             by_cases c32 : x50_26 = true
             ·subst c32
              have H1 : (rung_codeN.j3 kj26 l1 l2 x7_1 t104 t105 l0 (l0.length : Int) x19_1 true ((rd_T40 l0 x19_1).f0) ((rd_T40 l0 x19_1).f1) ((rd_T40 l0 x19_1).f2.f0) ((rd_T40 l0 x19_1).f2.f1) ((rd_T40 l0 x19_1).f2.f2) ((rd_T40 l0 x19_1).f2.f3)) = some r := by rw [if_pos rfl] at H; exact H
              clear H
              have H := H1
              clear H1
              have H' := Aside0.mk H
              clear H
              go_wp2
              go_meet
              case rel => exact ⟨_, (true), (by first | rfl | (simp; done) | (simp [*]; done)), H', ⟨by have := HK1.out; have := HJ8.out; have := HJ26.out; first | omega | exact Nat.le_refl _⟩, ⟨by (with_reducible repeat (first | refine blk_drewN ?_ _ | refine blk_drew ?_ | refine blk_alloc ?_ _)); exact BK102.out⟩, ⟨by repeat (first | (with_reducible first | exact HB.out | apply below_alloc | apply pw_below_drewN | apply below_drew1 | refine below_set ?_ GE102.out) | exact HB.out)⟩⟩
             ·replace c32 := Bool.eq_false_iff.mpr c32
              subst c32
              have H1 : (if ((rd_T40 l0 x19_1).f0) = 2 then ((rung_strangeN.f kj26 ((rd_T40 l0 x19_1).f2.f0) ((rd_T40 l0 x19_1).f2.f1) ((rd_T40 l0 x19_1).f2.f2) ((rd_T40 l0 x19_1).f2.f3) l2).bind fun t110 => (rung_codeN.j3 kj26 l1 l2 x7_1 t104 t105 l0 (l0.length : Int) x19_1 t110 ((rd_T40 l0 x19_1).f0) ((rd_T40 l0 x19_1).f1) ((rd_T40 l0 x19_1).f2.f0) ((rd_T40 l0 x19_1).f2.f1) ((rd_T40 l0 x19_1).f2.f2) ((rd_T40 l0 x19_1).f2.f3))) else (rung_codeN.j3 kj26 l1 l2 x7_1 t104 t105 l0 (l0.length : Int) x19_1 false ((rd_T40 l0 x19_1).f0) ((rd_T40 l0 x19_1).f1) ((rd_T40 l0 x19_1).f2.f0) ((rd_T40 l0 x19_1).f2.f1) ((rd_T40 l0 x19_1).f2.f2) ((rd_T40 l0 x19_1).f2.f3))) = some r := by rw [if_neg (show ¬ (false = true) by decide)] at H; exact H
              clear H
              have H := H1
              clear H1
              by_cases c33 : ((rd_T40 l0 x19_1).f0) = 2
              ·rw [if_pos c33] at H
               have c33b0 : (((rd_T40 l0 x19_1).f0) == 2) = true := beq_iff_eq.mpr c33
               have c33b1 : (((rd_T40 l0 x19_1).f0) != 2) = false := bne_eq_false_iff_eq.mpr c33
               clear c33
               (first | rw [c33b0] | (simp only [i64_w, i32_w]; rw [c33b0]) | skip)
               replace H := Option.bind_eq_some_iff.mp H
               obtain ⟨t110, A340, H⟩ := H
               replace H : (rung_codeN.j3 kj26 l1 l2 x7_1 t104 t105 l0 (l0.length : Int) x19_1 t110 ((rd_T40 l0 x19_1).f0) ((rd_T40 l0 x19_1).f1) ((rd_T40 l0 x19_1).f2.f0) ((rd_T40 l0 x19_1).f2.f1) ((rd_T40 l0 x19_1).f2.f2) ((rd_T40 l0 x19_1).f2.f3)) = some r := H
               have A34 := Aside0.mk A340
               clear A340
               have H' := Aside0.mk H
               clear H
               have hcz35_0 : wc.cell? ⟨gb102, 0, none⟩ = some (.int .i64 ((rd_T40 l0 x19_1).f0)) := (blk_cell BK102.out 0).trans rfl
               have hcz35_1 : wc.cell? ⟨gb102, 1, none⟩ = some (.string ((rd_T40 l0 x19_1).f1)) := (blk_cell BK102.out 1).trans rfl
               have hcz35_2 : wc.cell? ⟨gb102, 2, none⟩ = some (.int .i64 ((rd_T40 l0 x19_1).f2.f0)) := (blk_cell BK102.out 2).trans rfl
               have hcz35_3 : wc.cell? ⟨gb102, 3, none⟩ = some (.int .i64 ((rd_T40 l0 x19_1).f2.f1)) := (blk_cell BK102.out 3).trans rfl
               have hcz35_4 : wc.cell? ⟨gb102, 4, none⟩ = some (.string ((rd_T40 l0 x19_1).f2.f2)) := (blk_cell BK102.out 4).trans rfl
               have hcz35_5 : wc.cell? ⟨gb102, 5, none⟩ = some (.slice A101_5 ((rd_T40 l0 x19_1).f2.f3).length c101_5) := (blk_cell BK102.out 5).trans rfl
               have hfz35_0 := blk_frozen BK102.out 0
               have hfz35_1 := blk_frozen BK102.out 1
               have hfz35_2 := blk_frozen BK102.out 2
               have hfz35_3 := blk_frozen BK102.out 3
               have hfz35_4 := blk_frozen BK102.out 4
               have hfz35_5 := blk_frozen BK102.out 5
               go_wp2_with (first | (go_at_call 123; (with_reducible refine (rung_strangeN.calls kj26 ((rd_T40 l0 x19_1).f2.f0) ((rd_T40 l0 x19_1).f2.f1) ((rd_T40 l0 x19_1).f2.f2) _ _ ((rd_T40 l0 x19_1).f2.f3) _ _ l2 t110 _ ?side1 ?side2 ?side3 ?side4 A34.out HNL.out (by first | exact HT0.out | exact UT.below HT0.out (by repeat (first | (with_reducible first | exact HB.out | apply below_alloc | apply pw_below_drewN | apply below_drew1 | refine below_set ?_ GE102.out) | exact HB.out)))).mono ?_); (case side1 => repeat (first | exact (Kd.C_below HR101_5.out HB.out) | (with_reducible refine Kd.C_alloc ?_ _) | (with_reducible refine Kd.C_drewN ?_ _) | (with_reducible refine Kd.C_drew ?_))); (case side2 => exact HC101_5.out); (case side3 => repeat (first | exact (Kd.C_below HR2.out HB.out) | (with_reducible refine Kd.C_alloc ?_ _) | (with_reducible refine Kd.C_drewN ?_ _) | (with_reducible refine Kd.C_drew ?_))); (case side4 => exact HC2.out); rintro e w36 ⟨rfl, hb⟩; have n0_ := Aside0.mk (blk_below (g := gb102) (o := .cells #[.int .i64 ((rd_T40 l0 x19_1).f0), .string ((rd_T40 l0 x19_1).f1), .int .i64 ((rd_T40 l0 x19_1).f2.f0), .int .i64 ((rd_T40 l0 x19_1).f2.f1), .string ((rd_T40 l0 x19_1).f2.f2), .slice A101_5 ((rd_T40 l0 x19_1).f2.f3).length c101_5] 40 (0, 0)) (by (with_reducible repeat (first | refine blk_drewN ?_ _ | refine blk_drew ?_ | refine blk_alloc ?_ _)); exact BK102.out) hb); have n1_ := Aside0.mk (below_step (by repeat (first | (with_reducible first | exact HB.out | apply below_alloc | apply pw_below_drewN | apply below_drew1 | refine below_set ?_ GE102.out) | exact HB.out)) hb); clear BK102; clear HB; have BK102 := n0_; have HB := n1_; clear n0_ n1_; (try clear hb); (try clear hb2); (try clear hk); (try clear hi)))
               go_meet
               case rel => exact ⟨_, (t110), (by first | rfl | (simp; done) | (simp [*]; done)), H', ⟨by have := HK1.out; have := HJ8.out; have := HJ26.out; first | omega | exact Nat.le_refl _⟩, ⟨by (with_reducible repeat (first | refine blk_drewN ?_ _ | refine blk_drew ?_ | refine blk_alloc ?_ _)); exact BK102.out⟩, ⟨by repeat (first | (with_reducible first | exact HB.out | apply below_alloc | apply pw_below_drewN | apply below_drew1 | refine below_set ?_ GE102.out) | exact HB.out)⟩⟩
              ·rw [if_neg c33] at H
               have c33b0 : (((rd_T40 l0 x19_1).f0) == 2) = false := beq_eq_false_iff_ne.mpr c33
               have c33b1 : (((rd_T40 l0 x19_1).f0) != 2) = true := bne_iff_ne.mpr c33
               (first | rw [c33b0] | (simp only [i64_w, i32_w]; rw [c33b0]) | skip)
               have H' := Aside0.mk H
               clear H
               have hcz37_0 : wc.cell? ⟨gb102, 0, none⟩ = some (.int .i64 ((rd_T40 l0 x19_1).f0)) := (blk_cell BK102.out 0).trans rfl
               have hcz37_1 : wc.cell? ⟨gb102, 1, none⟩ = some (.string ((rd_T40 l0 x19_1).f1)) := (blk_cell BK102.out 1).trans rfl
               have hcz37_2 : wc.cell? ⟨gb102, 2, none⟩ = some (.int .i64 ((rd_T40 l0 x19_1).f2.f0)) := (blk_cell BK102.out 2).trans rfl
               have hcz37_3 : wc.cell? ⟨gb102, 3, none⟩ = some (.int .i64 ((rd_T40 l0 x19_1).f2.f1)) := (blk_cell BK102.out 3).trans rfl
               have hcz37_4 : wc.cell? ⟨gb102, 4, none⟩ = some (.string ((rd_T40 l0 x19_1).f2.f2)) := (blk_cell BK102.out 4).trans rfl
               have hcz37_5 : wc.cell? ⟨gb102, 5, none⟩ = some (.slice A101_5 ((rd_T40 l0 x19_1).f2.f3).length c101_5) := (blk_cell BK102.out 5).trans rfl
               have hfz37_0 := blk_frozen BK102.out 0
               have hfz37_1 := blk_frozen BK102.out 1
               have hfz37_2 := blk_frozen BK102.out 2
               have hfz37_3 := blk_frozen BK102.out 3
               have hfz37_4 := blk_frozen BK102.out 4
               have hfz37_5 := blk_frozen BK102.out 5
               go_wp2
               go_meet
               case rel => exact ⟨_, (false), (by first | rfl | (simp; done) | (simp [*]; done)), H', ⟨by have := HK1.out; have := HJ8.out; have := HJ26.out; first | omega | exact Nat.le_refl _⟩, ⟨by (with_reducible repeat (first | refine blk_drewN ?_ _ | refine blk_drew ?_ | refine blk_alloc ?_ _)); exact BK102.out⟩, ⟨by repeat (first | (with_reducible first | exact HB.out | apply below_alloc | apply pw_below_drewN | apply below_drew1 | refine below_set ?_ GE102.out) | exact HB.out)⟩⟩
            case rest =>
             clear HC31
             obtain ⟨kq, x50_30, rfl, HA, HJ30, BK102, HB⟩ := hcut
             cases kq with
             | zero => exact absurd HA.out (by simp [rung_codeN.j3])
             | succ kj30 =>
              have H := HA.out
              clear HA
              simp only [rung_codeN.j3] at H
              by_cases c38 : x50_30 = true
              ·subst c38
               have H1 : (some 21) = some r := by rw [if_pos rfl] at H; exact H
               clear H
               have H := H1
               clear H1
               obtain rfl := Option.some.inj H
               go_wp2
               go_ret
               exact ⟨by first | rfl | (simp [errW_none, errW_some] <;> rfl) | (simp [*, errW_none, errW_some] <;> rfl), by repeat (first | (with_reducible first | exact HB.out | apply below_alloc | apply pw_below_drewN | apply below_drew1 | refine below_set ?_ GE102.out) | exact HB.out)⟩
              ·replace c38 := Bool.eq_false_iff.mpr c38
               subst c38
               have H1 : (if ((rd_T40 l0 x19_1).f0) = 2 then ((expr_May.f kj30 ((rd_T40 l0 x19_1).f2.f0) ((rd_T40 l0 x19_1).f2.f1) ((rd_T40 l0 x19_1).f2.f2) ((rd_T40 l0 x19_1).f2.f3)).bind fun t111 => (rung_codeN.j4 kj30 l1 l2 x7_1 t104 t105 l0 (l0.length : Int) x19_1 (!t111))) else (rung_codeN.j4 kj30 l1 l2 x7_1 t104 t105 l0 (l0.length : Int) x19_1 false)) = some r := by rw [if_neg (show ¬ (false = true) by decide)] at H; exact H
               clear H
               have H := H1
               clear H1
               have HC39 := Aside0.mk H
               clear H
               go_upto_region 15 with (fail)
               go_cut [68] (fun v68 wc => ∃ (kq : Nat) (x68_38 : Bool), v68 = .bool x68_38 ∧ Aside0 (rung_codeN.j4 kq l1 l2 x7_1 t104 t105 l0 (l0.length : Int) x19_1 x68_38 = some r) ∧ Aside0 (kq ≤ kj30) ∧ Aside0 (wc.heap[gb102]? = some (.cells #[.int .i64 ((rd_T40 l0 x19_1).f0), .string ((rd_T40 l0 x19_1).f1), .int .i64 ((rd_T40 l0 x19_1).f2.f0), .int .i64 ((rd_T40 l0 x19_1).f2.f1), .string ((rd_T40 l0 x19_1).f2.f2), (.slice A101_5 ((rd_T40 l0 x19_1).f2.f3).length c101_5)] 40 (0, 0))) ∧ Aside0 (Below w.heap.size w wc))
               case first =>
                have H := HC39.out
                clear HC39
                by_cases c40 : ((rd_T40 l0 x19_1).f0) = 2
                ·rw [if_pos c40] at H
                 have c40b0 : (((rd_T40 l0 x19_1).f0) == 2) = true := beq_iff_eq.mpr c40
                 have c40b1 : (((rd_T40 l0 x19_1).f0) != 2) = false := bne_eq_false_iff_eq.mpr c40
                 clear c40
                 (first | rw [c40b0] | (simp only [i64_w, i32_w]; rw [c40b0]) | skip)
                 replace H := Option.bind_eq_some_iff.mp H
                 obtain ⟨t111, A410, H⟩ := H
                 replace H : (rung_codeN.j4 kj30 l1 l2 x7_1 t104 t105 l0 (l0.length : Int) x19_1 (!t111)) = some r := H
                 have A41 := Aside0.mk A410
                 clear A410
                 have H' := Aside0.mk H
                 clear H
                 have hcz42_0 : wc.cell? ⟨gb102, 0, none⟩ = some (.int .i64 ((rd_T40 l0 x19_1).f0)) := (blk_cell BK102.out 0).trans rfl
                 have hcz42_1 : wc.cell? ⟨gb102, 1, none⟩ = some (.string ((rd_T40 l0 x19_1).f1)) := (blk_cell BK102.out 1).trans rfl
                 have hcz42_2 : wc.cell? ⟨gb102, 2, none⟩ = some (.int .i64 ((rd_T40 l0 x19_1).f2.f0)) := (blk_cell BK102.out 2).trans rfl
                 have hcz42_3 : wc.cell? ⟨gb102, 3, none⟩ = some (.int .i64 ((rd_T40 l0 x19_1).f2.f1)) := (blk_cell BK102.out 3).trans rfl
                 have hcz42_4 : wc.cell? ⟨gb102, 4, none⟩ = some (.string ((rd_T40 l0 x19_1).f2.f2)) := (blk_cell BK102.out 4).trans rfl
                 have hcz42_5 : wc.cell? ⟨gb102, 5, none⟩ = some (.slice A101_5 ((rd_T40 l0 x19_1).f2.f3).length c101_5) := (blk_cell BK102.out 5).trans rfl
                 have hfz42_0 := blk_frozen BK102.out 0
                 have hfz42_1 := blk_frozen BK102.out 1
                 have hfz42_2 := blk_frozen BK102.out 2
                 have hfz42_3 := blk_frozen BK102.out 3
                 have hfz42_4 := blk_frozen BK102.out 4
                 have hfz42_5 := blk_frozen BK102.out 5
                 go_wp2_with (first | (go_at_call 29; (with_reducible refine (expr_May.calls kj30 ((rd_T40 l0 x19_1).f2.f0) ((rd_T40 l0 x19_1).f2.f1) ((rd_T40 l0 x19_1).f2.f2) _ _ ((rd_T40 l0 x19_1).f2.f3) t111 _ ?side1 ?side2 A41.out (by first | exact HT0.out | exact UT.below HT0.out (by repeat (first | (with_reducible first | exact HB.out | apply below_alloc | apply pw_below_drewN | apply below_drew1 | refine below_set ?_ GE102.out) | exact HB.out)))).mono ?_); (case side1 => repeat (first | exact (Kd.C_below HR101_5.out HB.out) | (with_reducible refine Kd.C_alloc ?_ _) | (with_reducible refine Kd.C_drewN ?_ _) | (with_reducible refine Kd.C_drew ?_))); (case side2 => exact HC101_5.out); rintro e w43 ⟨rfl, hb⟩; have n0_ := Aside0.mk (blk_below (g := gb102) (o := .cells #[.int .i64 ((rd_T40 l0 x19_1).f0), .string ((rd_T40 l0 x19_1).f1), .int .i64 ((rd_T40 l0 x19_1).f2.f0), .int .i64 ((rd_T40 l0 x19_1).f2.f1), .string ((rd_T40 l0 x19_1).f2.f2), .slice A101_5 ((rd_T40 l0 x19_1).f2.f3).length c101_5] 40 (0, 0)) (by (with_reducible repeat (first | refine blk_drewN ?_ _ | refine blk_drew ?_ | refine blk_alloc ?_ _)); exact BK102.out) hb); have n1_ := Aside0.mk (below_step (by repeat (first | (with_reducible first | exact HB.out | apply below_alloc | apply pw_below_drewN | apply below_drew1 | refine below_set ?_ GE102.out) | exact HB.out)) hb); clear BK102; clear HB; have BK102 := n0_; have HB := n1_; clear n0_ n1_; (try clear hb); (try clear hb2); (try clear hk); (try clear hi)))
                 go_meet
                 case rel => exact ⟨_, (!t111), (by first | rfl | (simp; done) | (simp [*]; done)), H', ⟨by have := HK1.out; have := HJ8.out; have := HJ26.out; have := HJ30.out; first | omega | exact Nat.le_refl _⟩, ⟨by (with_reducible repeat (first | refine blk_drewN ?_ _ | refine blk_drew ?_ | refine blk_alloc ?_ _)); exact BK102.out⟩, ⟨by repeat (first | (with_reducible first | exact HB.out | apply below_alloc | apply pw_below_drewN | apply below_drew1 | refine below_set ?_ GE102.out) | exact HB.out)⟩⟩
                ·rw [if_neg c40] at H
                 have c40b0 : (((rd_T40 l0 x19_1).f0) == 2) = false := beq_eq_false_iff_ne.mpr c40
                 have c40b1 : (((rd_T40 l0 x19_1).f0) != 2) = true := bne_iff_ne.mpr c40
                 (first | rw [c40b0] | (simp only [i64_w, i32_w]; rw [c40b0]) | skip)
                 have H' := Aside0.mk H
                 clear H
                 have hcz44_0 : wc.cell? ⟨gb102, 0, none⟩ = some (.int .i64 ((rd_T40 l0 x19_1).f0)) := (blk_cell BK102.out 0).trans rfl
                 have hcz44_1 : wc.cell? ⟨gb102, 1, none⟩ = some (.string ((rd_T40 l0 x19_1).f1)) := (blk_cell BK102.out 1).trans rfl
                 have hcz44_2 : wc.cell? ⟨gb102, 2, none⟩ = some (.int .i64 ((rd_T40 l0 x19_1).f2.f0)) := (blk_cell BK102.out 2).trans rfl
                 have hcz44_3 : wc.cell? ⟨gb102, 3, none⟩ = some (.int .i64 ((rd_T40 l0 x19_1).f2.f1)) := (blk_cell BK102.out 3).trans rfl
                 have hcz44_4 : wc.cell? ⟨gb102, 4, none⟩ = some (.string ((rd_T40 l0 x19_1).f2.f2)) := (blk_cell BK102.out 4).trans rfl
                 have hcz44_5 : wc.cell? ⟨gb102, 5, none⟩ = some (.slice A101_5 ((rd_T40 l0 x19_1).f2.f3).length c101_5) := (blk_cell BK102.out 5).trans rfl
                 have hfz44_0 := blk_frozen BK102.out 0
                 have hfz44_1 := blk_frozen BK102.out 1
                 have hfz44_2 := blk_frozen BK102.out 2
                 have hfz44_3 := blk_frozen BK102.out 3
                 have hfz44_4 := blk_frozen BK102.out 4
                 have hfz44_5 := blk_frozen BK102.out 5
                 go_wp2
                 go_meet
                 case rel => exact ⟨_, (false), (by first | rfl | (simp; done) | (simp [*]; done)), H', ⟨by have := HK1.out; have := HJ8.out; have := HJ26.out; have := HJ30.out; first | omega | exact Nat.le_refl _⟩, ⟨by (with_reducible repeat (first | refine blk_drewN ?_ _ | refine blk_drew ?_ | refine blk_alloc ?_ _)); exact BK102.out⟩, ⟨by repeat (first | (with_reducible first | exact HB.out | apply below_alloc | apply pw_below_drewN | apply below_drew1 | refine below_set ?_ GE102.out) | exact HB.out)⟩⟩
               case rest =>
                clear HC39
                obtain ⟨kq, x68_38, rfl, HA, HJ38, BK102, HB⟩ := hcut
                cases kq with
                | zero => exact absurd HA.out (by simp [rung_codeN.j4])
                | succ kj38 =>
                 have H := HA.out
                 clear HA
                 simp only [rung_codeN.j4] at H
                 by_cases c45 : x68_38 = true
                 ·subst c45
                  have H1 : (some 1) = some r := by rw [if_pos rfl] at H; exact H
                  clear H
                  have H := H1
                  clear H1
                  obtain rfl := Option.some.inj H
                  go_wp2
                  go_ret
                  exact ⟨by first | rfl | (simp [errW_none, errW_some] <;> rfl) | (simp [*, errW_none, errW_some] <;> rfl), by repeat (first | (with_reducible first | exact HB.out | apply below_alloc | apply pw_below_drewN | apply below_drew1 | refine below_set ?_ GE102.out) | exact HB.out)⟩
                 ·replace c45 := Bool.eq_false_iff.mpr c45
                  subst c45
                  have H1 : (if x7_1 < t104 then (some 1) else (if (wrap64 ((wrap64 (x7_1 - t104)) + t105)) > 8 then (some 1) else (rung_codeN.l0 kj38 l1 l2 (wrap64 (x7_1 + (wrap64 (t105 - t104)))) l0 (l0.length : Int) (wrap64 (x19_1 + 1))))) = some r := by rw [if_neg (show ¬ (false = true) by decide)] at H; exact H
                  clear H
                  have H := H1
                  clear H1
                  by_cases c46 : x7_1 < t104
                  ·rw [if_pos c46] at H
                   have c46b0 : decide (x7_1 < t104) = true := decide_eq_true c46
                   clear c46
                   obtain rfl := Option.some.inj H
                   go_wp2
                   go_ret
                   exact ⟨by first | rfl | (simp [errW_none, errW_some] <;> rfl) | (simp [*, errW_none, errW_some] <;> rfl), by repeat (first | (with_reducible first | exact HB.out | apply below_alloc | apply pw_below_drewN | apply below_drew1 | refine below_set ?_ GE102.out) | exact HB.out)⟩
                  ·rw [if_neg c46] at H
                   have c46b0 : decide (x7_1 < t104) = false := decide_eq_false c46
                   clear c46
                   by_cases c47 : (wrap64 ((wrap64 (x7_1 - t104)) + t105)) > 8
                   ·rw [if_pos c47] at H
                    have c47b0 : decide (8 < (wrap64 ((wrap64 (x7_1 - t104)) + t105))) = true := decide_eq_true c47
                    clear c47
                    obtain rfl := Option.some.inj H
                    go_wp2
                    go_ret
                    exact ⟨by first | rfl | (simp [errW_none, errW_some] <;> rfl) | (simp [*, errW_none, errW_some] <;> rfl), by repeat (first | (with_reducible first | exact HB.out | apply below_alloc | apply pw_below_drewN | apply below_drew1 | refine below_set ?_ GE102.out) | exact HB.out)⟩
                   ·rw [if_neg c47] at H
                    have c47b0 : decide (8 < (wrap64 ((wrap64 (x7_1 - t104)) + t105))) = false := decide_eq_false c47
                    clear c47
                    have H' := Aside0.mk H
                    clear H
                    go_wp2
                    go_roundg kj38
                    case measure => have := HK1.out; have := HJ8.out; have := HJ26.out; have := HJ30.out; have := HJ38.out; omega
                    case rel => exact ⟨(wrap64 (x7_1 + (wrap64 (t105 - t104)))), (wrap64 (x19_1 + 1)), (by first | rfl | (simp; done) | (simp [*]; done)), (by first | rfl | (simp; done) | (simp [*]; done)), H', ⟨by have := HK1.out; have := HJ8.out; have := HJ26.out; have := HJ30.out; have := HJ38.out; omega⟩, ⟨by repeat (first | (with_reducible first | exact HB.out | apply below_alloc | apply pw_below_drewN | apply below_drew1 | refine below_set ?_ GE102.out) | exact HB.out)⟩⟩
      ·rw [if_neg c7] at H
       exact absurd H (by simp)
     ·rw [if_neg c6] at H
      exact absurd H (by simp)
    ·rw [if_neg c5] at H
     have c5b0 : decide (x19_1 < (l0.length : Int)) = false := decide_eq_false c5
     clear c5
     by_cases c48 : x7_1 = 1
     ·rw [if_pos c48] at H
      have c48b0 : (x7_1 == 1) = true := beq_iff_eq.mpr c48
      have c48b1 : (x7_1 != 1) = false := bne_eq_false_iff_eq.mpr c48
      clear c48
      obtain rfl := Option.some.inj H
      go_wp2
      go_ret
      exact ⟨by first | rfl | (simp [errW_none, errW_some] <;> rfl) | (simp [*, errW_none, errW_some] <;> rfl), by repeat (first | (with_reducible first | exact HB.out | apply below_alloc | apply pw_below_drewN | apply below_drew1) | exact HB.out)⟩
     ·rw [if_neg c48] at H
      have c48b0 : (x7_1 == 1) = false := beq_eq_false_iff_ne.mpr c48
      have c48b1 : (x7_1 != 1) = true := bne_iff_ne.mpr c48
      obtain rfl := Option.some.inj H
      go_wp2
      go_ret
      exact ⟨by first | rfl | (simp [errW_none, errW_some] <;> rfl) | (simp [*, errW_none, errW_some] <;> rfl), by repeat (first | (with_reducible first | exact HB.out | apply below_alloc | apply pw_below_drewN | apply below_drew1) | exact HB.out)⟩
end Go.Proofs.YtiaccdaeomaogaaDoor.F
namespace Go.Proofs.YtiaccdaeomaogaaDoor.F
open Go.RowKit Go.Proofs.YtiaccdaeomaogaaDoorW.PrintWords Go.Proofs.YtiaccdaeomaogaaDoorW.PrintLast Go.Proofs.YtiaccdaeomaogaaDoorW.PrintMore
attribute [local go_sem] max2_int min2_int max_two min_two max_three min_three max_four min_four   -- for this text's walks alone
set_option linter.unusedVariables false
set_option linter.unusedSimpArgs false
mutual
def rung_checkN.l0 : Nat → List ByteArray → List ByteArray → List (S43) → Int → Int → Option (Int)
  | 0, _, _, _, _, _ => none
  | k + 1, x1, x7, x16, x17, x18 => if x18 < x17 then (if 0 ≤ x18 then (if x18 < (x16.length : Int) then (if ((rd_T43 x16 x18).f0) < 0 then (rung_checkN.j1 k x1 x7 x16 x17 x18 true ((rd_T43 x16 x18).f0) ((rd_T43 x16 x18).f1) ((rd_T43 x16 x18).f2)) else (if ((rd_T43 x16 x18).f0) > 4 then (rung_checkN.j1 k x1 x7 x16 x17 x18 true ((rd_T43 x16 x18).f0) ((rd_T43 x16 x18).f1) ((rd_T43 x16 x18).f2)) else ((lex_Name.f ((rd_T43 x16 x18).f1)).bind fun t106 => (rung_checkN.j1 k x1 x7 x16 x17 x18 (!t106) ((rd_T43 x16 x18).f0) ((rd_T43 x16 x18).f1) ((rd_T43 x16 x18).f2))))) else (none)) else (none)) else (some 0)
def rung_checkN.j1 : Nat → List ByteArray → List ByteArray → List (S43) → Int → Int → Bool → Int → ByteArray → List (S40) → Option (Int)
  | 0, _, _, _, _, _, _, _, _, _ => none
  | k + 1, x1, x7, x16, x17, x18, x35, x106000, x106001, x106002 => if x35 = true then (some 1) else (if x106000 ≥ 3 then (rung_checkN.j2 k x1 x7 x16 x17 x18 (!true) x106000 x106001 x106002) else (rung_checkN.j2 k x1 x7 x16 x17 x18 false x106000 x106001 x106002))
def rung_checkN.j2 : Nat → List ByteArray → List ByteArray → List (S43) → Int → Int → Bool → Int → ByteArray → List (S40) → Option (Int)
  | 0, _, _, _, _, _, _, _, _, _ => none
  | k + 1, x1, x7, x16, x17, x18, x45, x106000, x106001, x106002 => if x45 = true then (some 21) else ((rung_codeN.f k x106002 x7 x1).bind fun t107 => (if t107 = 0 then (rung_checkN.l0 k x1 x7 x16 x17 (wrap64 (x18 + 1))) else (some t107)))
end
def rung_checkN.f (k : Nat) (l0 : List (S43)) (l1 : List ByteArray) (l2 : List ByteArray) : Option (Int) := if (l0.length : Int) > 12 then (some 2) else ((rung_Bits.f k l0).bind fun t101 => (rung_checkN.l0 k l1 t101 l0 (l0.length : Int) 0))
theorem rung_checkN.mono_l : ∀ k, (∀ y0 y1 y2 y3 y4, LeO (rung_checkN.l0 k y0 y1 y2 y3 y4) (rung_checkN.l0 (k + 1) y0 y1 y2 y3 y4)) ∧ (∀ y0 y1 y2 y3 y4 y5 y6 y7 y8, LeO (rung_checkN.j1 k y0 y1 y2 y3 y4 y5 y6 y7 y8) (rung_checkN.j1 (k + 1) y0 y1 y2 y3 y4 y5 y6 y7 y8)) ∧ (∀ y0 y1 y2 y3 y4 y5 y6 y7 y8, LeO (rung_checkN.j2 k y0 y1 y2 y3 y4 y5 y6 y7 y8) (rung_checkN.j2 (k + 1) y0 y1 y2 y3 y4 y5 y6 y7 y8))
  | 0 => ⟨fun _ _ _ _ _ r h => by simp [rung_checkN.l0] at h, fun _ _ _ _ _ _ _ _ _ r h => by simp [rung_checkN.j1] at h, fun _ _ _ _ _ _ _ _ _ r h => by simp [rung_checkN.j2] at h⟩
  | k + 1 => by
    obtain ⟨ih0, ih1, ih2⟩ := rung_checkN.mono_l k
    refine ⟨?_, ?_, ?_⟩
    · intro y0 y1 y2 y3 y4
      unfold rung_checkN.l0
      repeat' first
      | (with_reducible exact ih0 _ _ _ _ _)
      | (with_reducible exact ih1 _ _ _ _ _ _ _ _ _)
      | (with_reducible exact ih2 _ _ _ _ _ _ _ _ _)
      | (with_reducible exact rung_Bits.mono _ _)
      | (with_reducible exact rung_codeN.mono _ _ _ _)
      | (with_reducible exact LeO.refl _)
      | (with_reducible exact LeO.none _)
      | (with_reducible refine LeO.ite ?_ ?_)
      | (with_reducible refine LeO.bind ?_ (fun _ => ?_))
      | exact ih0 _ _ _ _ _
      | exact ih1 _ _ _ _ _ _ _ _ _
      | exact ih2 _ _ _ _ _ _ _ _ _
      | exact rung_Bits.mono _ _
      | exact rung_codeN.mono _ _ _ _
      | exact LeO.none _
      | refine LeO.ite ?_ ?_
      | refine LeO.bind ?_ (fun _ => ?_)
    · intro y0 y1 y2 y3 y4 y5 y6 y7 y8
      unfold rung_checkN.j1
      repeat' first
      | (with_reducible exact ih0 _ _ _ _ _)
      | (with_reducible exact ih1 _ _ _ _ _ _ _ _ _)
      | (with_reducible exact ih2 _ _ _ _ _ _ _ _ _)
      | (with_reducible exact rung_Bits.mono _ _)
      | (with_reducible exact rung_codeN.mono _ _ _ _)
      | (with_reducible exact LeO.refl _)
      | (with_reducible exact LeO.none _)
      | (with_reducible refine LeO.ite ?_ ?_)
      | (with_reducible refine LeO.bind ?_ (fun _ => ?_))
      | exact ih0 _ _ _ _ _
      | exact ih1 _ _ _ _ _ _ _ _ _
      | exact ih2 _ _ _ _ _ _ _ _ _
      | exact rung_Bits.mono _ _
      | exact rung_codeN.mono _ _ _ _
      | exact LeO.none _
      | refine LeO.ite ?_ ?_
      | refine LeO.bind ?_ (fun _ => ?_)
    · intro y0 y1 y2 y3 y4 y5 y6 y7 y8
      unfold rung_checkN.j2
      repeat' first
      | (with_reducible exact ih0 _ _ _ _ _)
      | (with_reducible exact ih1 _ _ _ _ _ _ _ _ _)
      | (with_reducible exact ih2 _ _ _ _ _ _ _ _ _)
      | (with_reducible exact rung_Bits.mono _ _)
      | (with_reducible exact rung_codeN.mono _ _ _ _)
      | (with_reducible exact LeO.refl _)
      | (with_reducible exact LeO.none _)
      | (with_reducible refine LeO.ite ?_ ?_)
      | (with_reducible refine LeO.bind ?_ (fun _ => ?_))
      | exact ih0 _ _ _ _ _
      | exact ih1 _ _ _ _ _ _ _ _ _
      | exact ih2 _ _ _ _ _ _ _ _ _
      | exact rung_Bits.mono _ _
      | exact rung_codeN.mono _ _ _ _
      | exact LeO.none _
      | refine LeO.ite ?_ ?_
      | refine LeO.bind ?_ (fun _ => ?_)
theorem rung_checkN.mono : ∀ a0 a1 a2 k, LeO (rung_checkN.f k a0 a1 a2) (rung_checkN.f (k + 1) a0 a1 a2) := by
  intro a0 a1 a2 k
  obtain ⟨ih0, ih1, ih2⟩ := rung_checkN.mono_l k
  unfold rung_checkN.f
  repeat' first
      | (with_reducible exact ih0 _ _ _ _ _)
      | (with_reducible exact ih1 _ _ _ _ _ _ _ _ _)
      | (with_reducible exact ih2 _ _ _ _ _ _ _ _ _)
      | (with_reducible exact rung_Bits.mono _ _)
      | (with_reducible exact rung_codeN.mono _ _ _ _)
      | (with_reducible exact LeO.refl _)
      | (with_reducible exact LeO.none _)
      | (with_reducible refine LeO.ite ?_ ?_)
      | (with_reducible refine LeO.bind ?_ (fun _ => ?_))
      | exact ih0 _ _ _ _ _
      | exact ih1 _ _ _ _ _ _ _ _ _
      | exact ih2 _ _ _ _ _ _ _ _ _
      | exact rung_Bits.mono _ _
      | exact rung_codeN.mono _ _ _ _
      | exact LeO.none _
      | refine LeO.ite ?_ ?_
      | refine LeO.bind ?_ (fun _ => ?_)
set_option maxHeartbeats 8000000 in
set_option maxRecDepth 100000 in
theorem rung_checkN.calls (k : Nat) (A0 : Option Addr) (c0 : Nat) (l0 : List (S43)) (A1 : Option Addr) (c1 : Nat) (l1 : List ByteArray) (l2 : List ByteArray) (r : Int) (w : World) (hr0 : Kd.C k43 w A0 l0.length l0) (hc0 : l0.length ≤ c0) (hr1 : Kd.C Kd.string w A1 l1.length l1) (hc1 : l1.length ≤ c1) (h : rung_checkN.f k l0 l1 l2 = some r) (hN : A1 = none) (hT : UT w) :
  Calls Tryd.prog 59 #[.slice A0 l0.length c0, .slice A1 l1.length c1, .func (.func 66) #[] #[]] w fun e w' => e = .returned (.int .i64 r) ∧ Below w.heap.size w w' := by
 have HT0 := Aside0.mk hT
 clear hT
 have HNL := Aside0.mk hN
 clear hN
 have hu43 := Tryd.underlying43
 have HR0 := Aside0.mk hr0
 have HC0 := Aside0.mk hc0
 clear hr0 hc0
 have HR1 := Aside0.mk hr1
 have HC1 := Aside0.mk hc1
 clear hr1 hc1
 have HB := Aside0.mk (Below.refl w.heap.size w)
 have H : (if (l0.length : Int) > 12 then (some 2) else ((rung_Bits.f k l0).bind fun t101 => (rung_checkN.l0 k l1 t101 l0 (l0.length : Int) 0))) = some r := h
 clear h
 by_cases c4 : (l0.length : Int) > 12
 ·rw [if_pos c4] at H
  have c4b0 : decide (12 < (l0.length : Int)) = true := decide_eq_true c4
  have c4b1 : decide (12 < l0.length) = true := decide_eq_true (by omega)
  clear c4
  obtain rfl := Option.some.inj H
  go_enter Tryd.func59, Tryd.ntmps59
  go_wp2_with (first | (go_at_call 66; (with_reducible refine (all_lit _ _).mono ?_); rintro e w' ⟨rfl, ⟨nd, rfl⟩⟩))
  go_ret
  exact ⟨by first | rfl | (simp [errW_none, errW_some] <;> rfl) | (simp [*, errW_none, errW_some] <;> rfl), by repeat (first | (with_reducible first | exact HB.out | apply below_alloc | apply pw_below_drewN | apply below_drew1) | exact HB.out)⟩
 ·rw [if_neg c4] at H
  have c4b0 : decide (12 < (l0.length : Int)) = false := decide_eq_false c4
  have c4b1 : decide (12 < l0.length) = false := decide_eq_false (by omega)
  clear c4
  replace H := Option.bind_eq_some_iff.mp H
  obtain ⟨t101, A50, H⟩ := H
  replace H : (rung_checkN.l0 k l1 t101 l0 (l0.length : Int) 0) = some r := H
  have A5 := Aside0.mk A50
  clear A50
  have H' := Aside0.mk H
  clear H
  go_enter Tryd.func59, Tryd.ntmps59
  go_wp2_with (first | (go_at_call 66; (with_reducible refine (all_lit _ _).mono ?_); rintro e w' ⟨rfl, ⟨nd, rfl⟩⟩) | ((with_reducible refine gate_callee (f := 23) rfl ?_); refine goesL_ (some 15) rfl rfl Tryd.func23 (by kernel_rfl) rfl #[.slice A0 l0.length c0] rfl (by (try simp only [List.map_toArray, List.map_cons, List.map_nil]); first | done | rfl | (simp only [List.length_drop, List.length_take]; rfl)) ?_; (with_reducible refine (rung_Bits.calls k _ _ l0 t101 _ ?side1 ?side2 A5.out).mono ?_); (case side1 => repeat (first | exact HR0.out | (with_reducible refine Kd.C_alloc ?_ _) | (with_reducible refine Kd.C_drewN ?_ _) | (with_reducible refine Kd.C_drew ?_))); (case side2 => exact HC0.out); rintro e w6 ⟨v102, rfl, ho0, hb⟩; refine ⟨_, rfl, ?_⟩; have n0_ := Aside0.mk (Kd.R_lower ho0 (below_size (by repeat (first | (with_reducible first | exact HB.out | apply below_alloc | apply pw_below_drewN | apply below_drew1) | exact HB.out)))); have n1_ := Aside0.mk (below_step (by repeat (first | (with_reducible first | exact HB.out | apply below_alloc | apply pw_below_drewN | apply below_drew1) | exact HB.out)) hb); clear HB; have HO103 := n0_; have HB := n1_; clear n0_ n1_; (try clear hb); (try clear hb2); (try clear hk); (try clear hi); (try clear ho0)))
  go_loopg [18] k (fun kq v18 w' => ∃ (x18_1 : Int), v18 = .int .i64 x18_1 ∧ Aside0 (rung_checkN.l0 kq l1 t101 l0 (l0.length : Int) x18_1 = some r) ∧ Aside0 (kq ≤ k) ∧ Aside0 (Kd.R Kd.string 9 w' w.heap.size (fun _ => True) v102 t101) ∧ Aside0 (Below w.heap.size w w'))
  case atStart => exact ⟨(0), (by first | rfl | (simp; done) | (simp [*]; done)), H', ⟨Nat.le_refl _⟩, ⟨by (with_reducible repeat (first | apply Kd.R_alloc | apply Kd.R_drewN | apply Kd.R_drew)); exact HO103.out⟩, ⟨by repeat (first | (with_reducible first | exact HB.out | apply below_alloc | apply pw_below_drewN | apply below_drew1) | exact HB.out)⟩⟩
  case round =>
   clear H'
   obtain ⟨x18_1, rfl, HA, HK1, HO_7, HB⟩ := hrel
   cases gk with
   | zero => exact absurd HA.out (by simp [rung_checkN.l0])
   | succ k1 =>
    have H := HA.out
    clear HA
    simp only [rung_checkN.l0] at H
    by_cases c7 : x18_1 < (l0.length : Int)
    ·rw [if_pos c7] at H
     have c7b0 : decide (x18_1 < (l0.length : Int)) = true := decide_eq_true c7
     clear c7
     by_cases c8 : 0 ≤ x18_1
     ·rw [if_pos c8] at H
      have c8b0 : decide (0 ≤ x18_1) = true := decide_eq_true c8
      clear c8
      by_cases c9 : x18_1 < (l0.length : Int)
      ·rw [if_pos c9] at H
       have c9b0 : decide (x18_1 < (l0.length : Int)) = true := decide_eq_true c9
       clear c9
       have HC10 := Aside0.mk H
       clear H
       have p104 : 0 ≤ (x18_1 : Int) := of_decide_eq_true (by first | (with_reducible assumption) | assumption)
       have q104 : x18_1 < (l0.length : Int) := of_decide_eq_true (by first | (with_reducible assumption) | assumption)
       obtain ⟨ad104, A104_2, c104_2, e104, hx104_0, hx104_1, hx104_2, hl104_2, hi104_2⟩ := at_T43 HR0.out x18_1 p104 q104
       cases e104
       replace hx104_0 := (HB.out.cell (World.block_lt_of_cell? w _ hx104_0)).trans hx104_0
       replace hx104_1 := (HB.out.cell (World.block_lt_of_cell? w _ hx104_1)).trans hx104_1
       replace hx104_2 := (HB.out.cell (World.block_lt_of_cell? w _ hx104_2)).trans hx104_2
       have HR104_2 := Aside0.mk hi104_2
       have HC104_2 := Aside0.mk hl104_2
       clear hi104_2 hl104_2
       replace p104 := eq_true p104
       replace q104 := eq_true q104
       go_upto_region 7 with (first | ((with_reducible refine gate_dst (N := 9) rfl ?_); refine box_event ?hg (N := 9) ?hd (cs := #[.int .i64 0, .string (⟨#[]⟩ : ByteArray), .slice none 0 0]) (t := 43) ?hr ?_; (case hd => rfl); (case hg => rfl); (case hr => first | (go_simp; done) | (go_simp; rfl)); intro gb105 hg w11 hbox hb; have n0_ := Aside0.mk (Kd.R_below (by (with_reducible repeat (first | apply Kd.R_alloc | apply Kd.R_drewN | apply Kd.R_drew)); exact HO_7.out) hb); have n1_ := Aside0.mk (below_step (by repeat (first | (with_reducible first | exact HB.out | apply below_alloc | apply pw_below_drewN | apply below_drew1) | exact HB.out)) hb); have n2_ := Aside0.mk (hbox); have n3_ := Aside0.mk ((by rw [hg]; exact (below_size (by repeat (first | (with_reducible first | exact HB.out | apply below_alloc | apply pw_below_drewN | apply below_drew1) | exact HB.out))) : w.heap.size ≤ gb105)); have n4_ := Aside0.mk ((by rw [hg]; exact (below_size (by repeat (first | (with_reducible first | exact HB.out | apply below_alloc | apply pw_below_drewN | apply below_drew1) | exact HB.out))) : w.heap.size ≤ gb105)); clear HO_7; clear HB; have HO_7 := n0_; have HB := n1_; have BK105 := n2_; have GW105 := n3_; have GE105 := n4_; clear n0_ n1_ n2_ n3_ n4_; clear hb hbox hg; have hcz12_0 : w11.cell? ⟨gb105, 0, none⟩ = some (.int .i64 0) := (blk_cell BK105.out 0).trans rfl; have hcz12_1 : w11.cell? ⟨gb105, 1, none⟩ = some (.string (⟨#[]⟩ : ByteArray)) := (blk_cell BK105.out 1).trans rfl; have hcz12_2 : w11.cell? ⟨gb105, 2, none⟩ = some (.slice none 0 0) := (blk_cell BK105.out 2).trans rfl; have hfz12_0 := blk_frozen BK105.out 0; have hfz12_1 := blk_frozen BK105.out 1; have hfz12_2 := blk_frozen BK105.out 2))
       (try simp only [Act.put, List.setIfInBounds_toArray, List.set_cons_zero, List.set_cons_succ])
       go_cut [35] (fun v35 wc => ∃ (kq : Nat) (x35_9 : Bool), v35 = .bool x35_9 ∧ Aside0 (rung_checkN.j1 kq l1 t101 l0 (l0.length : Int) x18_1 x35_9 ((rd_T43 l0 x18_1).f0) ((rd_T43 l0 x18_1).f1) ((rd_T43 l0 x18_1).f2) = some r) ∧ Aside0 (kq ≤ k1) ∧ Aside0 (Kd.R Kd.string 9 wc w.heap.size (fun _ => True) v102 t101) ∧ Aside0 (wc.heap[gb105]? = some (.cells #[.int .i64 ((rd_T43 l0 x18_1).f0), .string ((rd_T43 l0 x18_1).f1), (.slice A104_2 ((rd_T43 l0 x18_1).f2).length c104_2)] 43 (0, 0))) ∧ Aside0 (Below w.heap.size w wc))
       case first =>
        have H := HC10.out
        clear HC10
        by_cases c13 : ((rd_T43 l0 x18_1).f0) < 0
        ·rw [if_pos c13] at H
         have c13b0 : decide (((rd_T43 l0 x18_1).f0) < 0) = true := decide_eq_true c13
         clear c13
         (first | rw [c13b0] | (simp only [i64_w, i32_w]; rw [c13b0]) | skip)
         have H' := Aside0.mk H
         clear H
         have hcz14_0 : w11.cell? ⟨gb105, 0, none⟩ = some (.int .i64 0) := (blk_cell BK105.out 0).trans rfl
         have hcz14_1 : w11.cell? ⟨gb105, 1, none⟩ = some (.string (⟨#[]⟩ : ByteArray)) := (blk_cell BK105.out 1).trans rfl
         have hcz14_2 : w11.cell? ⟨gb105, 2, none⟩ = some (.slice none 0 0) := (blk_cell BK105.out 2).trans rfl
         have hfz14_0 := blk_frozen BK105.out 0
         have hfz14_1 := blk_frozen BK105.out 1
         have hfz14_2 := blk_frozen BK105.out 2
         go_wp2_with (first | (go_at_call 66; (with_reducible refine (all_lit _ _).mono ?_); rintro e w' ⟨rfl, ⟨nd, rfl⟩⟩))
         go_meet
         case rel => exact ⟨_, (true), (by first | rfl | (simp; done) | (simp [*]; done)), H', ⟨by have := HK1.out; first | omega | exact Nat.le_refl _⟩, ⟨by (with_reducible repeat (first | apply Kd.R_alloc | apply Kd.R_drewN | apply Kd.R_drew)); exact Kd.R_mono (Kd.R_far (p := ⟨gb105, 2, none⟩) (Kd.R_far (p := ⟨gb105, 1, none⟩) (Kd.R_far (p := ⟨gb105, 0, none⟩) (Kd.R_types HO_7.out BK105.out (by decide)) (fun _ hk => hk.2) (.int .i64 ((rd_T43 l0 x18_1).f0))) (fun _ hk => hk.2) (.string ((rd_T43 l0 x18_1).f1))) (fun _ hk => hk.2) (.slice A104_2 ((rd_T43 l0 x18_1).f2).length c104_2)) (fun _ hk => trivial)⟩, ⟨by (with_reducible repeat (first | refine blk_drewN ?_ _ | refine blk_drew ?_ | refine blk_alloc ?_ _)); refine blk_put (cs := #[.int .i64 ((rd_T43 l0 x18_1).f0), .string ((rd_T43 l0 x18_1).f1), .slice none 0 0]) ?_ 2 _ rfl; (with_reducible repeat (first | refine blk_drewN ?_ _ | refine blk_drew ?_ | refine blk_alloc ?_ _)); refine blk_put (cs := #[.int .i64 ((rd_T43 l0 x18_1).f0), .string (⟨#[]⟩ : ByteArray), .slice none 0 0]) ?_ 1 _ rfl; (with_reducible repeat (first | refine blk_drewN ?_ _ | refine blk_drew ?_ | refine blk_alloc ?_ _)); refine blk_put (cs := #[.int .i64 0, .string (⟨#[]⟩ : ByteArray), .slice none 0 0]) ?_ 0 _ rfl; (with_reducible repeat (first | refine blk_drewN ?_ _ | refine blk_drew ?_ | refine blk_alloc ?_ _)); exact BK105.out⟩, ⟨by repeat (first | (with_reducible first | exact HB.out | apply below_alloc | apply pw_below_drewN | apply below_drew1 | refine below_set ?_ GE105.out) | exact HB.out)⟩⟩
        ·rw [if_neg c13] at H
         have c13b0 : decide (((rd_T43 l0 x18_1).f0) < 0) = false := decide_eq_false c13
         clear c13
         (first | rw [c13b0] | (simp only [i64_w, i32_w]; rw [c13b0]) | skip)
         by_cases c15 : ((rd_T43 l0 x18_1).f0) > 4
         ·rw [if_pos c15] at H
          have c15b0 : decide (4 < ((rd_T43 l0 x18_1).f0)) = true := decide_eq_true c15
          clear c15
          have H' := Aside0.mk H
          clear H
          have hcz16_0 : w11.cell? ⟨gb105, 0, none⟩ = some (.int .i64 0) := (blk_cell BK105.out 0).trans rfl
          have hcz16_1 : w11.cell? ⟨gb105, 1, none⟩ = some (.string (⟨#[]⟩ : ByteArray)) := (blk_cell BK105.out 1).trans rfl
          have hcz16_2 : w11.cell? ⟨gb105, 2, none⟩ = some (.slice none 0 0) := (blk_cell BK105.out 2).trans rfl
          have hfz16_0 := blk_frozen BK105.out 0
          have hfz16_1 := blk_frozen BK105.out 1
          have hfz16_2 := blk_frozen BK105.out 2
          go_wp2_with (first | (go_at_call 66; (with_reducible refine (all_lit _ _).mono ?_); rintro e w' ⟨rfl, ⟨nd, rfl⟩⟩))
          go_meet
          case rel => exact ⟨_, (true), (by first | rfl | (simp; done) | (simp [*]; done)), H', ⟨by have := HK1.out; first | omega | exact Nat.le_refl _⟩, ⟨by (with_reducible repeat (first | apply Kd.R_alloc | apply Kd.R_drewN | apply Kd.R_drew)); exact Kd.R_mono (Kd.R_far (p := ⟨gb105, 2, none⟩) (Kd.R_far (p := ⟨gb105, 1, none⟩) (Kd.R_far (p := ⟨gb105, 0, none⟩) (Kd.R_types HO_7.out BK105.out (by decide)) (fun _ hk => hk.2) (.int .i64 ((rd_T43 l0 x18_1).f0))) (fun _ hk => hk.2) (.string ((rd_T43 l0 x18_1).f1))) (fun _ hk => hk.2) (.slice A104_2 ((rd_T43 l0 x18_1).f2).length c104_2)) (fun _ hk => trivial)⟩, ⟨by (with_reducible repeat (first | refine blk_drewN ?_ _ | refine blk_drew ?_ | refine blk_alloc ?_ _)); refine blk_put (cs := #[.int .i64 ((rd_T43 l0 x18_1).f0), .string ((rd_T43 l0 x18_1).f1), .slice none 0 0]) ?_ 2 _ rfl; (with_reducible repeat (first | refine blk_drewN ?_ _ | refine blk_drew ?_ | refine blk_alloc ?_ _)); refine blk_put (cs := #[.int .i64 ((rd_T43 l0 x18_1).f0), .string (⟨#[]⟩ : ByteArray), .slice none 0 0]) ?_ 1 _ rfl; (with_reducible repeat (first | refine blk_drewN ?_ _ | refine blk_drew ?_ | refine blk_alloc ?_ _)); refine blk_put (cs := #[.int .i64 0, .string (⟨#[]⟩ : ByteArray), .slice none 0 0]) ?_ 0 _ rfl; (with_reducible repeat (first | refine blk_drewN ?_ _ | refine blk_drew ?_ | refine blk_alloc ?_ _)); exact BK105.out⟩, ⟨by repeat (first | (with_reducible first | exact HB.out | apply below_alloc | apply pw_below_drewN | apply below_drew1 | refine below_set ?_ GE105.out) | exact HB.out)⟩⟩
         ·rw [if_neg c15] at H
          have c15b0 : decide (4 < ((rd_T43 l0 x18_1).f0)) = false := decide_eq_false c15
          clear c15
          replace H := Option.bind_eq_some_iff.mp H
          obtain ⟨t106, A170, H⟩ := H
          replace H : (rung_checkN.j1 k1 l1 t101 l0 (l0.length : Int) x18_1 (!t106) ((rd_T43 l0 x18_1).f0) ((rd_T43 l0 x18_1).f1) ((rd_T43 l0 x18_1).f2)) = some r := H
          have A17 := Aside0.mk A170
          clear A170
          have H' := Aside0.mk H
          clear H
          have hcz18_0 : w11.cell? ⟨gb105, 0, none⟩ = some (.int .i64 0) := (blk_cell BK105.out 0).trans rfl
          have hcz18_1 : w11.cell? ⟨gb105, 1, none⟩ = some (.string (⟨#[]⟩ : ByteArray)) := (blk_cell BK105.out 1).trans rfl
          have hcz18_2 : w11.cell? ⟨gb105, 2, none⟩ = some (.slice none 0 0) := (blk_cell BK105.out 2).trans rfl
          have hfz18_0 := blk_frozen BK105.out 0
          have hfz18_1 := blk_frozen BK105.out 1
          have hfz18_2 := blk_frozen BK105.out 2
          go_wp2_with (first | (go_at_call 66; (with_reducible refine (all_lit _ _).mono ?_); rintro e w' ⟨rfl, ⟨nd, rfl⟩⟩) | (go_at_call 91; (with_reducible refine (lex_Name.calls ((rd_T43 l0 x18_1).f1) t106 _ A17.out (by first | exact HT0.out | exact UT.below HT0.out (by repeat (first | (with_reducible first | exact HB.out | apply below_alloc | apply pw_below_drewN | apply below_drew1 | refine below_set ?_ GE105.out) | exact HB.out)))).mono ?_); rintro e w19 ⟨rfl, hb⟩; have n0_ := Aside0.mk (Kd.R_below (by (with_reducible repeat (first | apply Kd.R_alloc | apply Kd.R_drewN | apply Kd.R_drew)); exact (Kd.R_mono (Kd.R_far (p := ⟨gb105, 2, none⟩) (Kd.R_far (p := ⟨gb105, 1, none⟩) (Kd.R_far (p := ⟨gb105, 0, none⟩) (Kd.R_types HO_7.out BK105.out (by decide)) (fun _ hk => hk.2) (.int .i64 ((rd_T43 l0 x18_1).f0))) (fun _ hk => hk.2) (.string ((rd_T43 l0 x18_1).f1))) (fun _ hk => hk.2) (.slice A104_2 ((rd_T43 l0 x18_1).f2).length c104_2)) (fun _ h_ => h_.1))) hb); have n1_ := Aside0.mk (blk_below (g := gb105) (o := .cells #[.int .i64 ((rd_T43 l0 x18_1).f0), .string ((rd_T43 l0 x18_1).f1), .slice A104_2 ((rd_T43 l0 x18_1).f2).length c104_2] 43 (0, 0)) (by (with_reducible repeat (first | refine blk_drewN ?_ _ | refine blk_drew ?_ | refine blk_alloc ?_ _)); refine blk_put (cs := #[.int .i64 ((rd_T43 l0 x18_1).f0), .string ((rd_T43 l0 x18_1).f1), .slice none 0 0]) ?_ 2 _ rfl; (with_reducible repeat (first | refine blk_drewN ?_ _ | refine blk_drew ?_ | refine blk_alloc ?_ _)); refine blk_put (cs := #[.int .i64 ((rd_T43 l0 x18_1).f0), .string (⟨#[]⟩ : ByteArray), .slice none 0 0]) ?_ 1 _ rfl; (with_reducible repeat (first | refine blk_drewN ?_ _ | refine blk_drew ?_ | refine blk_alloc ?_ _)); refine blk_put (cs := #[.int .i64 0, .string (⟨#[]⟩ : ByteArray), .slice none 0 0]) ?_ 0 _ rfl; (with_reducible repeat (first | refine blk_drewN ?_ _ | refine blk_drew ?_ | refine blk_alloc ?_ _)); exact BK105.out) hb); have n2_ := Aside0.mk (below_step (by repeat (first | (with_reducible first | exact HB.out | apply below_alloc | apply pw_below_drewN | apply below_drew1 | refine below_set ?_ GE105.out) | exact HB.out)) hb); clear HO_7; clear BK105; clear HB; have HO_7 := n0_; have BK105 := n1_; have HB := n2_; clear n0_ n1_ n2_; (try clear hb); (try clear hb2); (try clear hk); (try clear hi)))
          go_meet
          case rel => exact ⟨_, (!t106), (by first | rfl | (simp; done) | (simp [*]; done)), H', ⟨by have := HK1.out; first | omega | exact Nat.le_refl _⟩, ⟨by (with_reducible repeat (first | apply Kd.R_alloc | apply Kd.R_drewN | apply Kd.R_drew)); exact HO_7.out⟩, ⟨by (with_reducible repeat (first | refine blk_drewN ?_ _ | refine blk_drew ?_ | refine blk_alloc ?_ _)); exact BK105.out⟩, ⟨by repeat (first | (with_reducible first | exact HB.out | apply below_alloc | apply pw_below_drewN | apply below_drew1 | refine below_set ?_ GE105.out) | exact HB.out)⟩⟩
       case rest =>
        clear HC10
        obtain ⟨kq, x35_9, rfl, HA, HJ9, HO_7, BK105, HB⟩ := hcut
        cases kq with
        | zero => exact absurd HA.out (by simp [rung_checkN.j1])
        | succ kj9 =>
         have H := HA.out
         clear HA
         simp only [rung_checkN.j1] at H
         by_cases c20 : x35_9 = true
         ·subst c20
          have H1 : (some 1) = some r := by rw [if_pos rfl] at H; exact H
          clear H
          have H := H1
          clear H1
          obtain rfl := Option.some.inj H
          go_wp2_with (first | (go_at_call 66; (with_reducible refine (all_lit _ _).mono ?_); rintro e w' ⟨rfl, ⟨nd, rfl⟩⟩))
          go_ret
          exact ⟨by first | rfl | (simp [errW_none, errW_some] <;> rfl) | (simp [*, errW_none, errW_some] <;> rfl), by repeat (first | (with_reducible first | exact HB.out | apply below_alloc | apply pw_below_drewN | apply below_drew1 | refine below_set ?_ GE105.out) | exact HB.out)⟩
         ·replace c20 := Bool.eq_false_iff.mpr c20
          subst c20
          have H1 : (if ((rd_T43 l0 x18_1).f0) ≥ 3 then (rung_checkN.j2 kj9 l1 t101 l0 (l0.length : Int) x18_1 (!true) ((rd_T43 l0 x18_1).f0) ((rd_T43 l0 x18_1).f1) ((rd_T43 l0 x18_1).f2)) else (rung_checkN.j2 kj9 l1 t101 l0 (l0.length : Int) x18_1 false ((rd_T43 l0 x18_1).f0) ((rd_T43 l0 x18_1).f1) ((rd_T43 l0 x18_1).f2))) = some r := by rw [if_neg (show ¬ (false = true) by decide)] at H; exact H
          clear H
          have H := H1
          clear H1
          have HC21 := Aside0.mk H
          clear H
          go_upto_region 9 with (fail)
          go_cut [45] (fun v45 wc => ∃ (kq : Nat) (x45_20 : Bool), v45 = .bool x45_20 ∧ Aside0 (rung_checkN.j2 kq l1 t101 l0 (l0.length : Int) x18_1 x45_20 ((rd_T43 l0 x18_1).f0) ((rd_T43 l0 x18_1).f1) ((rd_T43 l0 x18_1).f2) = some r) ∧ Aside0 (kq ≤ kj9) ∧ Aside0 (Kd.R Kd.string 9 wc w.heap.size (fun _ => True) v102 t101) ∧ Aside0 (wc.heap[gb105]? = some (.cells #[.int .i64 ((rd_T43 l0 x18_1).f0), .string ((rd_T43 l0 x18_1).f1), (.slice A104_2 ((rd_T43 l0 x18_1).f2).length c104_2)] 43 (0, 0))) ∧ Aside0 (Below w.heap.size w wc))
          case first =>
           have H := HC21.out
           clear HC21
           by_cases c22 : ((rd_T43 l0 x18_1).f0) ≥ 3
           ·rw [if_pos c22] at H
            have c22b0 : decide (3 ≤ ((rd_T43 l0 x18_1).f0)) = true := decide_eq_true c22
            clear c22
            (first | rw [c22b0] | (simp only [i64_w, i32_w]; rw [c22b0]) | skip)
            have H' := Aside0.mk H
            clear H
            have hcz23_0 : wc.cell? ⟨gb105, 0, none⟩ = some (.int .i64 ((rd_T43 l0 x18_1).f0)) := (blk_cell BK105.out 0).trans rfl
            have hcz23_1 : wc.cell? ⟨gb105, 1, none⟩ = some (.string ((rd_T43 l0 x18_1).f1)) := (blk_cell BK105.out 1).trans rfl
            have hcz23_2 : wc.cell? ⟨gb105, 2, none⟩ = some (.slice A104_2 ((rd_T43 l0 x18_1).f2).length c104_2) := (blk_cell BK105.out 2).trans rfl
            have hfz23_0 := blk_frozen BK105.out 0
            have hfz23_1 := blk_frozen BK105.out 1
            have hfz23_2 := blk_frozen BK105.out 2
            go_wp2_with (first | (go_at_call 66; (with_reducible refine (all_lit _ _).mono ?_); rintro e w' ⟨rfl, ⟨nd, rfl⟩⟩))
            go_meet
            case rel => exact ⟨_, (!true), (by first | rfl | (simp; done) | (simp [*]; done)), H', ⟨by have := HK1.out; have := HJ9.out; first | omega | exact Nat.le_refl _⟩, ⟨by (with_reducible repeat (first | apply Kd.R_alloc | apply Kd.R_drewN | apply Kd.R_drew)); exact HO_7.out⟩, ⟨by (with_reducible repeat (first | refine blk_drewN ?_ _ | refine blk_drew ?_ | refine blk_alloc ?_ _)); exact BK105.out⟩, ⟨by repeat (first | (with_reducible first | exact HB.out | apply below_alloc | apply pw_below_drewN | apply below_drew1 | refine below_set ?_ GE105.out) | exact HB.out)⟩⟩
           ·rw [if_neg c22] at H
            have c22b0 : decide (3 ≤ ((rd_T43 l0 x18_1).f0)) = false := decide_eq_false c22
            clear c22
            (first | rw [c22b0] | (simp only [i64_w, i32_w]; rw [c22b0]) | skip)
            have H' := Aside0.mk H
            clear H
            have hcz24_0 : wc.cell? ⟨gb105, 0, none⟩ = some (.int .i64 ((rd_T43 l0 x18_1).f0)) := (blk_cell BK105.out 0).trans rfl
            have hcz24_1 : wc.cell? ⟨gb105, 1, none⟩ = some (.string ((rd_T43 l0 x18_1).f1)) := (blk_cell BK105.out 1).trans rfl
            have hcz24_2 : wc.cell? ⟨gb105, 2, none⟩ = some (.slice A104_2 ((rd_T43 l0 x18_1).f2).length c104_2) := (blk_cell BK105.out 2).trans rfl
            have hfz24_0 := blk_frozen BK105.out 0
            have hfz24_1 := blk_frozen BK105.out 1
            have hfz24_2 := blk_frozen BK105.out 2
            go_wp2_with (first | (go_at_call 66; (with_reducible refine (all_lit _ _).mono ?_); rintro e w' ⟨rfl, ⟨nd, rfl⟩⟩))
            go_meet
            case rel => exact ⟨_, (false), (by first | rfl | (simp; done) | (simp [*]; done)), H', ⟨by have := HK1.out; have := HJ9.out; first | omega | exact Nat.le_refl _⟩, ⟨by (with_reducible repeat (first | apply Kd.R_alloc | apply Kd.R_drewN | apply Kd.R_drew)); exact HO_7.out⟩, ⟨by (with_reducible repeat (first | refine blk_drewN ?_ _ | refine blk_drew ?_ | refine blk_alloc ?_ _)); exact BK105.out⟩, ⟨by repeat (first | (with_reducible first | exact HB.out | apply below_alloc | apply pw_below_drewN | apply below_drew1 | refine below_set ?_ GE105.out) | exact HB.out)⟩⟩
          case rest =>
           clear HC21
           obtain ⟨kq, x45_20, rfl, HA, HJ20, HO_7, BK105, HB⟩ := hcut
           cases kq with
           | zero => exact absurd HA.out (by simp [rung_checkN.j2])
           | succ kj20 =>
            have H := HA.out
            clear HA
            simp only [rung_checkN.j2] at H
            by_cases c25 : x45_20 = true
            ·subst c25
             have H1 : (some 21) = some r := by rw [if_pos rfl] at H; exact H
             clear H
             have H := H1
             clear H1
             obtain rfl := Option.some.inj H
             go_wp2_with (first | (go_at_call 66; (with_reducible refine (all_lit _ _).mono ?_); rintro e w' ⟨rfl, ⟨nd, rfl⟩⟩))
             go_ret
             exact ⟨by first | rfl | (simp [errW_none, errW_some] <;> rfl) | (simp [*, errW_none, errW_some] <;> rfl), by repeat (first | (with_reducible first | exact HB.out | apply below_alloc | apply pw_below_drewN | apply below_drew1 | refine below_set ?_ GE105.out) | exact HB.out)⟩
            ·replace c25 := Bool.eq_false_iff.mpr c25
             subst c25
             have H1 : ((rung_codeN.f kj20 ((rd_T43 l0 x18_1).f2) t101 l1).bind fun t107 => (if t107 = 0 then (rung_checkN.l0 kj20 l1 t101 l0 (l0.length : Int) (wrap64 (x18_1 + 1))) else (some t107))) = some r := by rw [if_neg (show ¬ (false = true) by decide)] at H; exact H
             clear H
             have H := H1
             clear H1
             replace H := Option.bind_eq_some_iff.mp H
             obtain ⟨t107, A260, H⟩ := H
             replace H : (if t107 = 0 then (rung_checkN.l0 kj20 l1 t101 l0 (l0.length : Int) (wrap64 (x18_1 + 1))) else (some t107)) = some r := H
             have A26 := Aside0.mk A260
             clear A260
             by_cases c27 : t107 = 0
             ·rw [if_pos c27] at H
              have c27b0 : (t107 == 0) = true := beq_iff_eq.mpr c27
              have c27b1 : (t107 != 0) = false := bne_eq_false_iff_eq.mpr c27
              clear c27
              have H' := Aside0.mk H
              clear H
              have hcz28_0 : wc.cell? ⟨gb105, 0, none⟩ = some (.int .i64 ((rd_T43 l0 x18_1).f0)) := (blk_cell BK105.out 0).trans rfl
              have hcz28_1 : wc.cell? ⟨gb105, 1, none⟩ = some (.string ((rd_T43 l0 x18_1).f1)) := (blk_cell BK105.out 1).trans rfl
              have hcz28_2 : wc.cell? ⟨gb105, 2, none⟩ = some (.slice A104_2 ((rd_T43 l0 x18_1).f2).length c104_2) := (blk_cell BK105.out 2).trans rfl
              have hfz28_0 := blk_frozen BK105.out 0
              have hfz28_1 := blk_frozen BK105.out 1
              have hfz28_2 := blk_frozen BK105.out 2
              obtain ⟨Ao29, co29, eo29⟩ := Kd.R_slice HO_7.out
              subst eo29
              go_wp2_with (first | (go_at_call 66; (with_reducible refine (all_lit _ _).mono ?_); rintro e w' ⟨rfl, ⟨nd, rfl⟩⟩) | ((with_reducible refine gate_callee (f := 92) rfl ?_); refine goesL_ (some 50) rfl rfl Tryd.func92 (by kernel_rfl) rfl #[.slice A104_2 ((rd_T43 l0 x18_1).f2).length c104_2, .slice Ao29 t101.length co29, .slice A1 l1.length c1] rfl (by (try simp only [List.map_toArray, List.map_cons, List.map_nil]); first | done | rfl | (simp only [List.length_drop, List.length_take]; rfl)) ?_; (with_reducible refine (rung_codeN.calls kj20 _ _ ((rd_T43 l0 x18_1).f2) _ _ t101 _ _ l1 t107 _ ?side1 ?side2 ?side3 ?side4 ?side5 ?side6 A26.out HNL.out (by first | exact HT0.out | exact UT.below HT0.out (by repeat (first | (with_reducible first | exact HB.out | apply below_alloc | apply pw_below_drewN | apply below_drew1 | refine below_set ?_ GE105.out) | exact HB.out)))).mono ?_); (case side1 => repeat (first | exact (Kd.C_below HR104_2.out HB.out) | (with_reducible refine Kd.C_alloc ?_ _) | (with_reducible refine Kd.C_drewN ?_ _) | (with_reducible refine Kd.C_drew ?_))); (case side2 => exact HC104_2.out); (case side3 => repeat (first | exact (Kd.R_reads' HO_7.out).2.2 | (with_reducible refine Kd.C_alloc ?_ _) | (with_reducible refine Kd.C_drewN ?_ _) | (with_reducible refine Kd.C_drew ?_))); (case side4 => exact (Kd.R_reads' HO_7.out).2.1); (case side5 => repeat (first | exact (Kd.C_below HR1.out HB.out) | (with_reducible refine Kd.C_alloc ?_ _) | (with_reducible refine Kd.C_drewN ?_ _) | (with_reducible refine Kd.C_drew ?_))); (case side6 => exact HC1.out); rintro e w30 ⟨rfl, hb⟩; refine ⟨_, rfl, ?_⟩; have n0_ := Aside0.mk (Kd.R_below (by (with_reducible repeat (first | apply Kd.R_alloc | apply Kd.R_drewN | apply Kd.R_drew)); exact HO_7.out) hb); have n1_ := Aside0.mk (blk_below (g := gb105) (o := .cells #[.int .i64 ((rd_T43 l0 x18_1).f0), .string ((rd_T43 l0 x18_1).f1), .slice A104_2 ((rd_T43 l0 x18_1).f2).length c104_2] 43 (0, 0)) (by (with_reducible repeat (first | refine blk_drewN ?_ _ | refine blk_drew ?_ | refine blk_alloc ?_ _)); exact BK105.out) hb); have n2_ := Aside0.mk (below_step (by repeat (first | (with_reducible first | exact HB.out | apply below_alloc | apply pw_below_drewN | apply below_drew1 | refine below_set ?_ GE105.out) | exact HB.out)) hb); clear HO_7; clear BK105; clear HB; have HO_7 := n0_; have BK105 := n1_; have HB := n2_; clear n0_ n1_ n2_; (try clear hb); (try clear hb2); (try clear hk); (try clear hi)))
              go_roundg kj20
              case measure => have := HK1.out; have := HJ9.out; have := HJ20.out; omega
              case rel => exact ⟨(wrap64 (x18_1 + 1)), (by first | rfl | (simp; done) | (simp [*]; done)), H', ⟨by have := HK1.out; have := HJ9.out; have := HJ20.out; omega⟩, ⟨by (with_reducible repeat (first | apply Kd.R_alloc | apply Kd.R_drewN | apply Kd.R_drew)); exact HO_7.out⟩, ⟨by repeat (first | (with_reducible first | exact HB.out | apply below_alloc | apply pw_below_drewN | apply below_drew1 | refine below_set ?_ GE105.out) | exact HB.out)⟩⟩
             ·rw [if_neg c27] at H
              have c27b0 : (t107 == 0) = false := beq_eq_false_iff_ne.mpr c27
              have c27b1 : (t107 != 0) = true := bne_iff_ne.mpr c27
              obtain rfl := Option.some.inj H
              have hcz31_0 : wc.cell? ⟨gb105, 0, none⟩ = some (.int .i64 ((rd_T43 l0 x18_1).f0)) := (blk_cell BK105.out 0).trans rfl
              have hcz31_1 : wc.cell? ⟨gb105, 1, none⟩ = some (.string ((rd_T43 l0 x18_1).f1)) := (blk_cell BK105.out 1).trans rfl
              have hcz31_2 : wc.cell? ⟨gb105, 2, none⟩ = some (.slice A104_2 ((rd_T43 l0 x18_1).f2).length c104_2) := (blk_cell BK105.out 2).trans rfl
              have hfz31_0 := blk_frozen BK105.out 0
              have hfz31_1 := blk_frozen BK105.out 1
              have hfz31_2 := blk_frozen BK105.out 2
              obtain ⟨Ao32, co32, eo32⟩ := Kd.R_slice HO_7.out
              subst eo32
              go_wp2_with (first | (go_at_call 66; (with_reducible refine (all_lit _ _).mono ?_); rintro e w' ⟨rfl, ⟨nd, rfl⟩⟩) | ((with_reducible refine gate_callee (f := 92) rfl ?_); refine goesL_ (some 50) rfl rfl Tryd.func92 (by kernel_rfl) rfl #[.slice A104_2 ((rd_T43 l0 x18_1).f2).length c104_2, .slice Ao32 t101.length co32, .slice A1 l1.length c1] rfl (by (try simp only [List.map_toArray, List.map_cons, List.map_nil]); first | done | rfl | (simp only [List.length_drop, List.length_take]; rfl)) ?_; (with_reducible refine (rung_codeN.calls kj20 _ _ ((rd_T43 l0 x18_1).f2) _ _ t101 _ _ l1 t107 _ ?side1 ?side2 ?side3 ?side4 ?side5 ?side6 A26.out HNL.out (by first | exact HT0.out | exact UT.below HT0.out (by repeat (first | (with_reducible first | exact HB.out | apply below_alloc | apply pw_below_drewN | apply below_drew1 | refine below_set ?_ GE105.out) | exact HB.out)))).mono ?_); (case side1 => repeat (first | exact (Kd.C_below HR104_2.out HB.out) | (with_reducible refine Kd.C_alloc ?_ _) | (with_reducible refine Kd.C_drewN ?_ _) | (with_reducible refine Kd.C_drew ?_))); (case side2 => exact HC104_2.out); (case side3 => repeat (first | exact (Kd.R_reads' HO_7.out).2.2 | (with_reducible refine Kd.C_alloc ?_ _) | (with_reducible refine Kd.C_drewN ?_ _) | (with_reducible refine Kd.C_drew ?_))); (case side4 => exact (Kd.R_reads' HO_7.out).2.1); (case side5 => repeat (first | exact (Kd.C_below HR1.out HB.out) | (with_reducible refine Kd.C_alloc ?_ _) | (with_reducible refine Kd.C_drewN ?_ _) | (with_reducible refine Kd.C_drew ?_))); (case side6 => exact HC1.out); rintro e w33 ⟨rfl, hb⟩; refine ⟨_, rfl, ?_⟩; have n0_ := Aside0.mk (Kd.R_below (by (with_reducible repeat (first | apply Kd.R_alloc | apply Kd.R_drewN | apply Kd.R_drew)); exact HO_7.out) hb); have n1_ := Aside0.mk (blk_below (g := gb105) (o := .cells #[.int .i64 ((rd_T43 l0 x18_1).f0), .string ((rd_T43 l0 x18_1).f1), .slice A104_2 ((rd_T43 l0 x18_1).f2).length c104_2] 43 (0, 0)) (by (with_reducible repeat (first | refine blk_drewN ?_ _ | refine blk_drew ?_ | refine blk_alloc ?_ _)); exact BK105.out) hb); have n2_ := Aside0.mk (below_step (by repeat (first | (with_reducible first | exact HB.out | apply below_alloc | apply pw_below_drewN | apply below_drew1 | refine below_set ?_ GE105.out) | exact HB.out)) hb); clear HO_7; clear BK105; clear HB; have HO_7 := n0_; have BK105 := n1_; have HB := n2_; clear n0_ n1_ n2_; (try clear hb); (try clear hb2); (try clear hk); (try clear hi)))
              go_ret
              exact ⟨by first | rfl | (simp [errW_none, errW_some] <;> rfl) | (simp [*, errW_none, errW_some] <;> rfl), by repeat (first | (with_reducible first | exact HB.out | apply below_alloc | apply pw_below_drewN | apply below_drew1 | refine below_set ?_ GE105.out) | exact HB.out)⟩
      ·rw [if_neg c9] at H
       exact absurd H (by simp)
     ·rw [if_neg c8] at H
      exact absurd H (by simp)
    ·rw [if_neg c7] at H
     have c7b0 : decide (x18_1 < (l0.length : Int)) = false := decide_eq_false c7
     clear c7
     obtain rfl := Option.some.inj H
     go_wp2_with (first | (go_at_call 66; (with_reducible refine (all_lit _ _).mono ?_); rintro e w' ⟨rfl, ⟨nd, rfl⟩⟩))
     go_ret
     exact ⟨by first | rfl | (simp [errW_none, errW_some] <;> rfl) | (simp [*, errW_none, errW_some] <;> rfl), by repeat (first | (with_reducible first | exact HB.out | apply below_alloc | apply pw_below_drewN | apply below_drew1) | exact HB.out)⟩
end Go.Proofs.YtiaccdaeomaogaaDoor.F
namespace Go.Proofs.YtiaccdaeomaogaaDoor.F
open Go.RowKit Go.Proofs.YtiaccdaeomaogaaDoorW.PrintWords Go.Proofs.YtiaccdaeomaogaaDoorW.PrintLast Go.Proofs.YtiaccdaeomaogaaDoorW.PrintMore
set_option linter.unusedVariables false
set_option linter.unusedSimpArgs false
section
variable {W w w1 : World} {g : Nat} {nm : List ByteArray} {bs : List Bool} {en : List S69} {st : List Bool} {AN : Option Addr} {cN : Nat} {AB : Option Addr} {cB : Nat} {AE : Option Addr} {cE : Nat} {AS : Option Addr} {cS : Nat}
theorem R_keepT {base : Nat} {v : Value} {xs : List ByteArray} {ok : Nat → Prop} {cs : Array Value} (h : Kd.R Kd.string 9 w base ok v xs) (hk : KeepT w w1 g) (hg : w.heap[g]? = some (.cells cs 105 (0, 0))) : Kd.R Kd.string 9 w1 base ok v xs := by
 refine Kd.R_reok rfl (Kd.R_step (Kd.R_tight rfl h) (fun k hk2 hlt => ?_)) h.1
 obtain ⟨cells, hc⟩ := own_typed (Kd.own_of_R h) k hk2.symm
 rw [hc]
 refine hk.2 k _ (fun e => ?_) hc (fun cells' e => ?_)
 ·subst e
  rw [hc] at hg
  injection hg with hg
  injection hg with _ hg _
  cases hg
 ·injection e with _ e _
  cases e
theorem blk_keepT {b : Nat} {t : Nat} {cs cs' : Array Value} (h : w.heap[b]? = some (.cells cs t (0, 0))) (hk : KeepT w w1 g) (ht : t ≠ 4) (hg : w.heap[g]? = some (.cells cs' 105 (0, 0))) (htg : t ≠ 105) : w1.heap[b]? = some (.cells cs t (0, 0)) := by
 refine hk.2 b _ (fun e => ?_) h (fun cells' e => ?_)
 ·subst e
  rw [h] at hg
  injection hg with hg
  injection hg with _ hg _
  exact htg hg
 ·injection e with _ e _
  exact ht e
theorem Mach.nil_ (h : Mach W w g nm bs en st AN cN AB cB AE cE AS cS) : Mach W (w.setCell ⟨g, 3, none⟩ (.slice none 0 0)) g nm bs en [] AN cN AB cB AE cE none 0 ∧ KeepT w (w.setCell ⟨g, 3, none⟩ (.slice none 0 0)) g := by
  have b2 := blk_set h.blk 3 (.slice none 0 0)
  have ty : ∀ {e : Nat} {α : Type} {enc : α → Value} {h1 : ∀ x, (enc x).oneCell' = true} {v : Value} {xs : List α} {ok : Nat → Prop}, (Kd.scalar enc h1).R e w W.heap.size ok v xs → e ≠ 105 → (Kd.scalar enc h1).R e (w.setCell ⟨g, 3, none⟩ (.slice none 0 0)) W.heap.size ok v xs := fun {e α enc h1 v xs ok} hr hne => by
    refine Kd.R_mono (Kd.R_set hr h.blk (fun q hq => ?_) 3 _) (fun _ h => h)
    have : q = e := by simpa [Kd.scalar] using hq
    rw [this]; exact hne
  exact ⟨⟨h.below.setCell (p := ⟨g, 3, none⟩) h.hg _, h.hg, b2, ty h.nms (by decide), ty h.bts (by decide), h.env, Kd.R_nil _ _ _ _ _⟩, ⟨by simp [World.setCell], fun i o hi ho _ => (Below.heap_setCell w ⟨g, 3, none⟩ _ i hi).trans ho⟩⟩
theorem Mach.bit_ {gb : Nat} (h : Mach W w g nm bs en st AN cN (some ⟨gb, 0, none⟩) cB AE cE AS cS) (i : Int) (b : Bool) (hgb : W.heap.size ≤ gb) : Mach W (w.setCell ⟨gb, i.toNat, none⟩ (.bool b)) g nm (bs.set i.toNat b) en st AN cN (some ⟨gb, 0, none⟩) cB AE cE AS cS ∧ KeepT w (w.setCell ⟨gb, i.toNat, none⟩ (.bool b)) g := by
 obtain ⟨hs, hgr⟩ := Kd.R_put h.bts i b
 obtain ⟨cells, hty⟩ := own_typed (Kd.own_of_R h.bts) gb rfl
 have hne : g ≠ gb := fun e => by
  subst e
  rw [h.blk] at hty
  injection hty with hty
  injection hty with _ hty _
  cases hty
 have hblk := (hgr.block g (blk_lt h.blk) (by simpa using hne)).trans h.blk
 refine ⟨⟨h.below.setCell (p := ⟨gb, i.toNat, none⟩) hgb _, h.hg, by rw [List.length_set]; exact hblk, ?_, by rw [List.length_set]; exact hs, h.env, ?_⟩, ⟨hgr.size, fun j o hj ho ht => (hgr.block j (blk_lt ho) (fun e => ?_)).trans ho⟩⟩
 ·refine Kd.R_mono (Kd.R_grown (Kd.R_tight rfl h.nms) hgr (fun k hk e => ?_)) (fun _ _ => trivial)
  obtain ⟨cells', hc'⟩ := own_typed (Kd.own_of_R h.nms) k hk.symm
  injection e with e
  subst e
  rw [hty] at hc'
  injection hc' with hc'
  injection hc' with _ hc' _
  cases hc'
 ·rw [List.length_set]
  refine Kd.R_reok rfl (Kd.R_grown (Kd.R_tight rfl h.stk) hgr (fun k hk e => ?_)) h.stk.1
  injection e with e
  subst e
  exact h.stk.1 _ hk.symm rfl
 ·injection e with e
  subst e
  rw [hty] at ho
  injection ho with ho
  exact ht _ ho.symm
theorem Mach.names_ {u : Value} {hs : List ByteArray} {ok : Nat → Prop} (h : Mach W w g nm bs en st AN cN AB cB AE cE AS cS) (hu : Kd.R Kd.string 9 w W.heap.size ok u hs) (hne : ∀ k, u.ownBlock = some k → some k ≠ (Value.slice AN nm.length cN).ownBlock) (hB : Below W.heap.size W w1) (hk : Kept w w1 (fun k => some k = u.ownBlock)) : Mach W w1 g nm bs en st AN cN AB cB AE cE AS cS := by
 have hty : ∀ k, some k = u.ownBlock → ∃ cells, w.heap[k]? = some (.cells cells 9 (0, 0)) := fun k e => own_typed (Kd.own_of_R hu) k e.symm
 have dif : ∀ {k t : Nat} {cs : Array Value}, w.heap[k]? = some (.cells cs t (0, 0)) → t ≠ 9 → ¬ some k = u.ownBlock := fun {k t cs} hb ht e => by
  obtain ⟨cells, hc⟩ := hty k e
  rw [hb] at hc
  injection hc with hc
  injection hc with _ hc _
  exact ht hc
 refine ⟨hB, h.hg, blk_kept h.blk hk (dif h.blk (by decide)), ?_, ?_, h.env, ?_⟩
 ·exact Kd.R_mono (Kd.R_kept (Kd.R_tight rfl h.nms) hk (fun k e1 e2 => hne k e2.symm e1)) (fun _ _ => trivial)
 ·refine Kd.R_mono (Kd.R_kept (Kd.R_tight rfl h.bts) hk (fun k e1 e2 => ?_)) (fun _ _ => trivial)
  obtain ⟨cells, hc⟩ := own_typed (Kd.own_of_R h.bts) k e1.symm
  exact dif hc (by decide) e2
 ·refine Kd.R_reok rfl (Kd.R_kept (Kd.R_tight rfl h.stk) hk (fun k e1 e2 => ?_)) h.stk.1
  obtain ⟨cells, hc⟩ := own_typed (Kd.own_of_R h.stk) k e1.symm
  exact dif hc (by decide) e2
end
def codeF (k : Nat) (nm : List ByteArray) (bs : List Bool) (en : List S69) : List S40 → List Bool → Option (List Bool)
  | [], st => some st
  | x :: xs, st => (insF k nm bs en x st).bind fun st' => codeF k nm bs en xs st'
def rungF (k : Nat) (nm : List ByteArray) (en : List S69) (r : S43) (s : List Bool × List ByteArray × List ByteArray) : Option (List Bool × List ByteArray × List ByteArray) :=
  (codeF k nm s.1 en r.f2 []).bind fun st => if st.length = 0 then none else
    (if r.f0 = 0 then (idxF k nm s.1 r.f1).bind fun i => some (s.1.set i.toNat (rdOf false st 0), s.2.1, s.2.2)
    else if r.f0 = 1 then (if rdOf false st 0 = true then (idxF k nm s.1 r.f1).bind fun i => some (s.1.set i.toNat true, s.2.1, s.2.2) else some s)
    else if r.f0 = 2 then (if rdOf false st 0 = true then (idxF k nm s.1 r.f1).bind fun i => some (s.1.set i.toNat false, s.2.1, s.2.2) else some s)
    else if r.f0 = 3 then (if rdOf false st 0 = true then some s else (rung_once.f k s.2.1 r.f1).bind fun h => some (s.1, h, s.2.2))
    else if r.f0 = 4 then (if rdOf false st 0 = true then some s else (rung_once.f k s.2.2 r.f1).bind fun h => some (s.1, s.2.1, h))
    else some s)
def rungsF (k : Nat) (nm : List ByteArray) (en : List S69) : List S43 → List Bool × List ByteArray × List ByteArray → Option (List Bool × List ByteArray × List ByteArray)
  | [], s => some s
  | r :: rs, s => (rungF k nm en r s).bind fun s' => rungsF k nm en rs s'
theorem codeF_mono (k : Nat) (nm : List ByteArray) (bs : List Bool) (en : List S69) : ∀ (l : List S40) (st : List Bool), LeO (codeF k nm bs en l st) (codeF (k + 1) nm bs en l st)
  | [], st => LeO.refl _
  | x :: xs, st => LeO.bind (insF_mono _ _ _ _ _ _) (fun _ => codeF_mono k nm bs en xs _)
theorem rungF_mono (k : Nat) (nm : List ByteArray) (en : List S69) (r : S43) (s : List Bool × List ByteArray × List ByteArray) : LeO (rungF k nm en r s) (rungF (k + 1) nm en r s) := by
  unfold rungF
  repeat' first
    | exact LeO.refl _
    | exact codeF_mono _ _ _ _ _ _
    | exact idxF_mono _ _ _ _
    | exact rung_once.mono _ _ _
    | refine LeO.ite ?_ ?_
    | refine LeO.bind ?_ (fun _ => ?_)
theorem rungsF_mono (k : Nat) (nm : List ByteArray) (en : List S69) : ∀ (l : List S43) (s : List Bool × List ByteArray × List ByteArray), LeO (rungsF k nm en l s) (rungsF (k + 1) nm en l s)
  | [], s => LeO.refl _
  | r :: rs, s => LeO.bind (rungF_mono _ _ _ _ _) (fun _ => rungsF_mono k nm en rs _)
theorem drop_T40 {l : List S40} {i : Int} (h0 : 0 ≤ i) (h1 : i < l.length) : l.drop i.toNat = rd_T40 l i :: l.drop (i + 1).toNat := by
  have h : i.toNat < l.length := by omega
  rw [show (i + 1).toNat = i.toNat + 1 from by omega, List.drop_eq_getElem_cons h]
  unfold rd_T40; rw [List.getD, List.getElem?_eq_getElem h]; rfl
theorem drop_T43 {l : List S43} {i : Int} (h0 : 0 ≤ i) (h1 : i < l.length) : l.drop i.toNat = rd_T43 l i :: l.drop (i + 1).toNat := by
  have h : i.toNat < l.length := by omega
  rw [show (i + 1).toNat = i.toNat + 1 from by omega, List.drop_eq_getElem_cons h]
  unfold rd_T43; rw [List.getD, List.getElem?_eq_getElem h]; rfl
end Go.Proofs.YtiaccdaeomaogaaDoor.F
namespace Go.Proofs.YtiaccdaeomaogaaDoor.F
open Go.RowKit Go.Proofs.YtiaccdaeomaogaaDoorW.PrintWords Go.Proofs.YtiaccdaeomaogaaDoorW.PrintLast Go.Proofs.YtiaccdaeomaogaaDoorW.PrintMore
attribute [local go_sem] max2_int min2_int max_two min_two max_three min_three max_four min_four   -- for this text's walks alone
set_option linter.unusedVariables false
set_option linter.unusedSimpArgs false
def rung_Run.f (k : Nat) (l0 : List (S43)) (l1 : List Bool) (l2 : List (S69)) : Option (List Bool × List ByteArray × List ByteArray) :=
  (rung_Bits.f k l0).bind fun nm => (slices_Clone_bool_bool.f l1).bind fun bs => if l1.length = nm.length then ((rung_checkN.f k l0 [] []).bind fun e => if e = 0 then rungsF k nm l2 l0 (bs, [], []) else some ([], [], [])) else some ([], [], [])
theorem rung_Run.mono : ∀ a0 a1 a2 k, LeO (rung_Run.f k a0 a1 a2) (rung_Run.f (k + 1) a0 a1 a2) := by
  intro a0 a1 a2 k
  unfold rung_Run.f
  repeat' first
    | exact LeO.refl _
    | exact rung_Bits.mono _ _
    | exact rung_checkN.mono _ _ _ _
    | exact rungsF_mono _ _ _ _ _
    | refine LeO.ite ?_ ?_
    | refine LeO.bind ?_ (fun _ => ?_)
theorem clone_f {l r : List Bool} (h : slices_Clone_bool_bool.f l = some r) : r = l := by
 unfold slices_Clone_bool_bool.f at h
 split at h
 ·exact (Option.some.inj h).symm
 ·cases h
def Rows2 (W w : World) (AN : Option Addr) (n cN : Nat) (u u' : Value) (hs bs : List ByteArray) : Prop :=
  Kd.R Kd.string 9 w W.heap.size (fun k => some k ≠ (Value.slice AN n cN).ownBlock ∧ some k ≠ u'.ownBlock) u hs ∧ Kd.R Kd.string 9 w W.heap.size (fun k => some k ≠ (Value.slice AN n cN).ownBlock ∧ some k ≠ u.ownBlock) u' bs
theorem Rows2.keepT {W w w1 : World} {AN : Option Addr} {n cN g : Nat} {u u' : Value} {hs bs : List ByteArray} {cs : Array Value} (h : Rows2 W w AN n cN u u' hs bs) (hk : KeepT w w1 g) (hg : w.heap[g]? = some (.cells cs 105 (0, 0))) : Rows2 W w1 AN n cN u u' hs bs := ⟨R_keepT h.1 hk hg, R_keepT h.2 hk hg⟩
theorem Rows2.below {W w w1 : World} {AN : Option Addr} {n cN : Nat} {u u' : Value} {hs bs : List ByteArray} (h : Rows2 W w AN n cN u u' hs bs) (hk : Below w.heap.size w w1) : Rows2 W w1 AN n cN u u' hs bs := ⟨Kd.R_below h.1 hk, Kd.R_below h.2 hk⟩
theorem Rows2.swap {W w : World} {AN : Option Addr} {n cN : Nat} {u u' : Value} {hs bs : List ByteArray} (h : Rows2 W w AN n cN u u' hs bs) : Rows2 W w AN n cN u' u bs hs := ⟨h.2, h.1⟩
theorem Rows2.put {W w w1 : World} {AN : Option Addr} {cN : Nat} {nm : List ByteArray} {u u' v : Value} {hs bs hs' : List ByteArray} (h : Rows2 W w AN nm.length cN u u' hs bs) (hn : Kd.R Kd.string 9 w W.heap.size (fun _ => True) (.slice AN nm.length cN) nm) (hr : Kd.R Kd.string 9 w1 W.heap.size (fun k_ => ((some k_ = u.ownBlock) ∨ w.heap.size ≤ k_)) v hs') (hk : Kept w w1 (fun k => some k = u.ownBlock)) : Rows2 W w1 AN nm.length cN v u' hs' bs := by
  have lt : ∀ {v2 : Value} {xs : List ByteArray} {ok : Nat → Prop} {k : Nat}, Kd.R Kd.string 9 w W.heap.size ok v2 xs → some k = v2.ownBlock → k < w.heap.size := fun {v2 xs ok k} h2 e => by
    obtain ⟨cells, hc⟩ := own_typed (Kd.own_of_R h2) k e.symm
    exact blk_lt hc
  have dis : ∀ k, v.ownBlock = some k → some k ≠ (Value.slice AN nm.length cN).ownBlock ∧ some k ≠ u'.ownBlock := fun k hv => by
    rcases hr.1 k hv with e | hge
    · exact h.1.1 k e.symm
    · exact ⟨fun e => by have := lt hn e; omega, fun e => by have := lt h.2 e; omega⟩
  refine ⟨Kd.R_reok rfl hr dis, ?_⟩
  refine Kd.R_reok rfl (Kd.R_kept (Kd.R_tight rfl h.2) hk (fun k e1 e2 => (h.2.1 k e1.symm).2 e2)) (fun k e => ⟨(h.2.1 k e).1, fun e2 => (dis k e2.symm).2 e.symm⟩)
theorem nilC (w : World) : Kd.C Kd.string w none ([] : List ByteArray).length [] := ⟨rfl, by simp, fun h => absurd h (Nat.lt_irrefl 0)⟩
set_option maxHeartbeats 8000000 in
set_option maxRecDepth 100000 in
theorem Run_len (k : Nat) (A0 : Option Addr) (c0 : Nat) (l0 : List (S43)) (A1 : Option Addr) (c1 : Nat) (l1 : List Bool) (A2 : Option Addr) (c2 : Nat) (l2 : List (S69)) (nm : List ByteArray) (w : World) (hr0 : Kd.C k43 w A0 l0.length l0) (hc0 : l0.length ≤ c0) (hr1 : Kd.C Kd.bool w A1 l1.length l1) (hc1 : l1.length ≤ c1) (hr2 : Kd.C k69 w A2 l2.length l2) (hc2 : l2.length ≤ c2) (hbi : rung_Bits.f k l0 = some nm) (hcl : slices_Clone_bool_bool.f l1 = some l1) (hne : l1.length ≠ nm.length) :
    Calls Tryd.prog 31 #[.slice A0 l0.length c0, .slice A1 l1.length c1, .slice A2 l2.length c2] w fun e w' => ∃ v0_ v1_ v2_ : Value, e = .returned (.tuple #[v0_, v1_, v2_]) ∧ Kd.R Kd.bool 4 w' w.heap.size (fun _ => True) v0_ [] ∧ Kd.R Kd.string 9 w' w.heap.size (fun k_ => some k_ ≠ (v2_ : Value).ownBlock) v1_ [] ∧ Kd.R Kd.string 9 w' w.heap.size (fun k_ => some k_ ≠ (v1_ : Value).ownBlock) v2_ [] ∧ Below w.heap.size w w' := by
  have HR0 := Aside0.mk hr0
  have HC0 := Aside0.mk hc0
  have HR1 := Aside0.mk hr1
  have HC1 := Aside0.mk hc1
  have HR2 := Aside0.mk hr2
  have HC2 := Aside0.mk hc2
  have HBi := Aside0.mk hbi
  have HCl := Aside0.mk hcl
  have d1 : ((l1.length : Int) == (nm.length : Int)) = false := beq_eq_false_iff_ne.mpr (by omega)
  have d2 : ((l1.length : Int) != (nm.length : Int)) = true := bne_iff_ne.mpr (by omega)
  clear hr0 hc0 hr1 hc1 hr2 hc2 hbi hcl hne
  go_enter Tryd.func31, Tryd.ntmps31
  go_wp2_with (first | (go_at_call 23; refine (rung_Bits.calls k A0 c0 l0 nm _ HR0.out HC0.out HBi.out).mono ?_; rintro e w1 ⟨v1, rfl, ho1, hb1⟩; obtain ⟨AN, cN, e1⟩ := Kd.R_slice ho1; subst e1; have HO1 := Aside0.mk ho1; have HB1 := Aside0.mk hb1; clear ho1 hb1) | (go_at_call 65; refine (slices_Clone_bool_bool.calls A1 c1 l1 l1 _ (Kd.C_below HR1.out HB1.out) HC1.out HCl.out).mono ?_; rintro e w2 ⟨v2, rfl, ho2, hb2⟩; obtain ⟨AB, cB, e2⟩ := Kd.R_slice ho2; subst e2; have HO2 := Aside0.mk (Kd.R_lower ho2 HB1.out.size); have HB2 := Aside0.mk (below_step HB1.out hb2); have HO3 := Aside0.mk (Kd.R_below HO1.out hb2); clear ho2 hb2) | ((with_reducible refine gate_dst (N := 23) rfl ?_); refine box_event ?hg (N := 23) ?hd (cs := #[.slice AN nm.length cN, .slice AB l1.length cB, .slice A2 l2.length c2, .slice none 0 0]) (t := 105) ?hr ?_; (case hd => rfl); (case hg => rfl); (case hr => first | (go_simp; done) | (go_simp; rfl)); intro g hg w3 hbox hb3; have HM3 : Aside0 (Mach w w3 g nm l1 l2 [] AN cN AB cB A2 c2 none 0) := ⟨⟨below_step HB2.out hb3, by rw [hg]; exact HB2.out.size, hbox, Kd.R_below HO3.out hb3, Kd.R_below HO2.out hb3, ⟨HR2.out, HC2.out⟩, Kd.R_nil _ _ _ _ _⟩⟩; have hm0 : w3.cell? ⟨g, 0, none⟩ = some (.slice AN nm.length cN) := (blk_cell hbox 0).trans rfl; clear hbox hb3 hg))
  refine bodyPost_ret (results_tmp3 rfl _ _ _) rfl ?_
  exact ⟨_, _, _, rfl, Kd.R_nil _ _ _ _ _, Kd.R_nil _ _ _ _ _, Kd.R_nil _ _ _ _ _, HM3.out.below⟩
set_option maxHeartbeats 8000000 in
set_option maxRecDepth 100000 in
theorem Run_bad (k : Nat) (A0 : Option Addr) (c0 : Nat) (l0 : List (S43)) (A1 : Option Addr) (c1 : Nat) (l1 : List Bool) (A2 : Option Addr) (c2 : Nat) (l2 : List (S69)) (nm : List ByteArray) (er : Int) (w : World) (hr0 : Kd.C k43 w A0 l0.length l0) (hc0 : l0.length ≤ c0) (hr1 : Kd.C Kd.bool w A1 l1.length l1) (hc1 : l1.length ≤ c1) (hr2 : Kd.C k69 w A2 l2.length l2) (hc2 : l2.length ≤ c2) (hT : UT w) (hbi : rung_Bits.f k l0 = some nm) (hcl : slices_Clone_bool_bool.f l1 = some l1) (hne : l1.length = nm.length) (he : rung_checkN.f k l0 [] [] = some er) (h0 : er ≠ 0) :
    Calls Tryd.prog 31 #[.slice A0 l0.length c0, .slice A1 l1.length c1, .slice A2 l2.length c2] w fun e w' => ∃ v0_ v1_ v2_ : Value, e = .returned (.tuple #[v0_, v1_, v2_]) ∧ Kd.R Kd.bool 4 w' w.heap.size (fun _ => True) v0_ [] ∧ Kd.R Kd.string 9 w' w.heap.size (fun k_ => some k_ ≠ (v2_ : Value).ownBlock) v1_ [] ∧ Kd.R Kd.string 9 w' w.heap.size (fun k_ => some k_ ≠ (v1_ : Value).ownBlock) v2_ [] ∧ Below w.heap.size w w' := by
  have HR0 := Aside0.mk hr0
  have HC0 := Aside0.mk hc0
  have HR1 := Aside0.mk hr1
  have HC1 := Aside0.mk hc1
  have HR2 := Aside0.mk hr2
  have HC2 := Aside0.mk hc2
  have HBi := Aside0.mk hbi
  have HCl := Aside0.mk hcl
  have HE := Aside0.mk he
  have HT := Aside0.mk hT
  have e1 : (l1.length : Int) = (nm.length : Int) := by omega
  have d1 : ((l1.length : Int) == (nm.length : Int)) = true := beq_iff_eq.mpr e1
  have d2 : ((l1.length : Int) != (nm.length : Int)) = false := bne_eq_false_iff_eq.mpr e1
  have d3 : (er == 0) = false := beq_eq_false_iff_ne.mpr h0
  have d4 : (er != 0) = true := bne_iff_ne.mpr h0
  clear hr0 hc0 hr1 hc1 hr2 hc2 hbi hcl hne he h0 hT e1
  go_enter Tryd.func31, Tryd.ntmps31
  go_wp2_with (first | (go_at_call 23; refine (rung_Bits.calls k A0 c0 l0 nm _ HR0.out HC0.out HBi.out).mono ?_; rintro e w1 ⟨v1, rfl, ho1, hb1⟩; obtain ⟨AN, cN, e1⟩ := Kd.R_slice ho1; subst e1; have HO1 := Aside0.mk ho1; have HB1 := Aside0.mk hb1; clear ho1 hb1) | (go_at_call 65; refine (slices_Clone_bool_bool.calls A1 c1 l1 l1 _ (Kd.C_below HR1.out HB1.out) HC1.out HCl.out).mono ?_; rintro e w2 ⟨v2, rfl, ho2, hb2⟩; obtain ⟨AB, cB, e2⟩ := Kd.R_slice ho2; subst e2; have HO2 := Aside0.mk (Kd.R_lower ho2 HB1.out.size); have HB2 := Aside0.mk (below_step HB1.out hb2); have HO3 := Aside0.mk (Kd.R_below HO1.out hb2); clear ho2 hb2) | ((with_reducible refine gate_dst (N := 23) rfl ?_); refine box_event ?hg (N := 23) ?hd (cs := #[.slice AN nm.length cN, .slice AB l1.length cB, .slice A2 l2.length c2, .slice none 0 0]) (t := 105) ?hr ?_; (case hd => rfl); (case hg => rfl); (case hr => first | (go_simp; done) | (go_simp; rfl)); intro g hg w3 hbox hb3; have HM3 : Aside0 (Mach w w3 g nm l1 l2 [] AN cN AB cB A2 c2 none 0) := ⟨⟨below_step HB2.out hb3, by rw [hg]; exact HB2.out.size, hbox, Kd.R_below HO3.out hb3, Kd.R_below HO2.out hb3, ⟨HR2.out, HC2.out⟩, Kd.R_nil _ _ _ _ _⟩⟩; have hm0 : w3.cell? ⟨g, 0, none⟩ = some (.slice AN nm.length cN) := (blk_cell hbox 0).trans rfl; clear hbox hb3 hg) | (go_at_call 59; refine (rung_checkN.calls k A0 c0 l0 none 0 [] [] er _ (Kd.C_below HR0.out HM3.out.below) HC0.out (nilC _) (Nat.le_refl _) HE.out rfl (UT.below HT.out HM3.out.below)).mono ?_; rintro e w4 ⟨rfl, hb4⟩; have HM4 := Aside0.mk (Mach.step HM3.out hb4); clear hb4))
  refine bodyPost_ret (results_tmp3 rfl _ _ _) rfl ?_
  exact ⟨_, _, _, rfl, Kd.R_nil _ _ _ _ _, Kd.R_nil _ _ _ _ _, Kd.R_nil _ _ _ _ _, HM4.out.below⟩
set_option maxHeartbeats 8000000 in
set_option maxRecDepth 100000 in
theorem Run_main (k : Nat) (A0 : Option Addr) (c0 : Nat) (l0 : List (S43)) (A1 : Option Addr) (c1 : Nat) (l1 : List Bool) (A2 : Option Addr) (c2 : Nat) (l2 : List (S69)) (nm : List ByteArray) (r : List Bool × List ByteArray × List ByteArray) (w : World) (hr0 : Kd.C k43 w A0 l0.length l0) (hc0 : l0.length ≤ c0) (hr1 : Kd.C Kd.bool w A1 l1.length l1) (hc1 : l1.length ≤ c1) (hr2 : Kd.C k69 w A2 l2.length l2) (hc2 : l2.length ≤ c2) (hT : UT w) (hbi : rung_Bits.f k l0 = some nm) (hcl : slices_Clone_bool_bool.f l1 = some l1) (hne : l1.length = nm.length) (he : rung_checkN.f k l0 [] [] = some 0) (hrs : rungsF k nm l2 l0 (l1, [], []) = some r) :
    Calls Tryd.prog 31 #[.slice A0 l0.length c0, .slice A1 l1.length c1, .slice A2 l2.length c2] w fun e w' => ∃ v0_ v1_ v2_ : Value, e = .returned (.tuple #[v0_, v1_, v2_]) ∧ Kd.R Kd.bool 4 w' w.heap.size (fun _ => True) v0_ r.1 ∧ Kd.R Kd.string 9 w' w.heap.size (fun k_ => some k_ ≠ (v2_ : Value).ownBlock) v1_ r.2.1 ∧ Kd.R Kd.string 9 w' w.heap.size (fun k_ => some k_ ≠ (v1_ : Value).ownBlock) v2_ r.2.2 ∧ Below w.heap.size w w' := by
  have HR0 := Aside0.mk hr0
  have HC0 := Aside0.mk hc0
  have HR1 := Aside0.mk hr1
  have HC1 := Aside0.mk hc1
  have HR2 := Aside0.mk hr2
  have HC2 := Aside0.mk hc2
  have HBi := Aside0.mk hbi
  have HCl := Aside0.mk hcl
  have HE := Aside0.mk he
  have HT := Aside0.mk hT
  have HRS := Aside0.mk hrs
  have e1 : (l1.length : Int) = (nm.length : Int) := by omega
  have d1 : ((l1.length : Int) == (nm.length : Int)) = true := beq_iff_eq.mpr e1
  have d2 : ((l1.length : Int) != (nm.length : Int)) = false := bne_eq_false_iff_eq.mpr e1
  have hu43 := Tryd.underlying43
  have hu40 := Tryd.underlying40
  have hu34 := Tryd.underlying34
  clear hr0 hc0 hr1 hc1 hr2 hc2 hbi hcl hne he hT hrs e1
  go_enter Tryd.func31, Tryd.ntmps31
  go_wp2_with (first | (go_at_call 23; refine (rung_Bits.calls k A0 c0 l0 nm _ HR0.out HC0.out HBi.out).mono ?_; rintro e w1 ⟨v1, rfl, ho1, hb1⟩; obtain ⟨AN, cN, e1⟩ := Kd.R_slice ho1; subst e1; have HO1 := Aside0.mk ho1; have HB1 := Aside0.mk hb1; clear ho1 hb1) | (go_at_call 65; refine (slices_Clone_bool_bool.calls A1 c1 l1 l1 _ (Kd.C_below HR1.out HB1.out) HC1.out HCl.out).mono ?_; rintro e w2 ⟨v2, rfl, ho2, hb2⟩; obtain ⟨AB, cB, e2⟩ := Kd.R_slice ho2; subst e2; have HO2 := Aside0.mk (Kd.R_lower ho2 HB1.out.size); have HB2 := Aside0.mk (below_step HB1.out hb2); have HO3 := Aside0.mk (Kd.R_below HO1.out hb2); clear ho2 hb2) | ((with_reducible refine gate_dst (N := 23) rfl ?_); refine box_event ?hg (N := 23) ?hd (cs := #[.slice AN nm.length cN, .slice AB l1.length cB, .slice A2 l2.length c2, .slice none 0 0]) (t := 105) ?hr ?_; (case hd => rfl); (case hg => rfl); (case hr => first | (go_simp; done) | (go_simp; rfl)); intro g hg w3 hbox hb3; have HM3 : Aside0 (Mach w w3 g nm l1 l2 [] AN cN AB cB A2 c2 none 0) := ⟨⟨below_step HB2.out hb3, by rw [hg]; exact HB2.out.size, hbox, Kd.R_below HO3.out hb3, Kd.R_below HO2.out hb3, ⟨HR2.out, HC2.out⟩, Kd.R_nil _ _ _ _ _⟩⟩; have hm0 : w3.cell? ⟨g, 0, none⟩ = some (.slice AN nm.length cN) := (blk_cell hbox 0).trans rfl; clear hbox hb3 hg) | (go_at_call 59; refine (rung_checkN.calls k A0 c0 l0 none 0 [] [] 0 _ (Kd.C_below HR0.out HM3.out.below) HC0.out (nilC _) (Nat.le_refl _) HE.out rfl (UT.below HT.out HM3.out.below)).mono ?_; rintro e w4 ⟨rfl, hb4⟩; have HM4 := Aside0.mk (Mach.step HM3.out hb4); clear hb4))
  go_loopg [10, 11, 39] l0.length (fun kq v10 v11 v39 w' => ∃ (u u' : Value) (x : Int) (s : List Bool × List ByteArray × List ByteArray) (stx : List Bool) (AS : Option Addr) (cS : Nat), v10 = u ∧ v11 = u' ∧ v39 = .int .i64 x ∧ Aside0 (0 ≤ x ∧ x ≤ (l0.length : Int) ∧ (kq : Int) = l0.length - x) ∧ Aside0 (Mach w w' g nm s.1 l2 stx AN cN AB cB A2 c2 AS cS) ∧ Aside0 (Rows2 w w' AN nm.length cN u u' s.2.1 s.2.2) ∧ Aside0 (rungsF k nm l2 (l0.drop x.toNat) s = some r))
  case atStart => exact ⟨_, _, 0, (l1, [], []), [], none, 0, rfl, rfl, rfl, ⟨by omega, by omega, by omega⟩, HM4, ⟨Kd.R_nil _ _ _ _ _, Kd.R_nil _ _ _ _ _⟩, ⟨by simpa using HRS.out⟩⟩
  case round =>
    clear HRS HM4 HM3 hm0 d1 d2 HB2 HO1 HO2 HO3 HB1 HE HCl HBi HR1 HC1
    obtain ⟨u, u', x, s, stx, AS, cS, rfl, rfl, rfl, HK, HM, HU, HRs⟩ := hrel
    by_cases hlt : x < (l0.length : Int)
    · have p1 := HK.out.1
      have q1 := hlt
      obtain ⟨ad, AC, cC, e1, y0, y1, y2, lC, gC⟩ := at_T43 HR0.out x p1 q1
      cases e1
      have hx0 := pw_cell_below HM.out.below y0
      have hx1 := pw_cell_below HM.out.below y1
      have hx2 := pw_cell_below HM.out.below y2
      have hrs := HRs.out
      rw [drop_T43 p1 q1] at hrs
      generalize rd_T43 l0 x = y at *
      obtain ⟨s', hrung, hrest⟩ := Option.bind_eq_some_iff.mp hrs
      unfold rungF at hrung
      obtain ⟨stE, hcode, hrung⟩ := Option.bind_eq_some_iff.mp hrung
      by_cases hst : stE.length = 0
      · rw [if_pos hst] at hrung; cases hrung
      rw [if_neg hst] at hrung
      have HRung := Aside0.mk hrung
      have HRest := Aside0.mk hrest
      have HCode := Aside0.mk hcode
      have HST := Aside0.mk hst
      have HGC := Aside0.mk gC
      have HLC := Aside0.mk lC
      obtain ⟨go, hgo⟩ : ∃ q, q = gk := ⟨_, rfl⟩
      have HGO := Aside0.mk hgo
      have HKK : Aside0 (0 ≤ x ∧ x < (l0.length : Int) ∧ (go : Int) = l0.length - x) := ⟨by have := HK.out; omega⟩
      clear hgo
      have hw : wrap64 (x + 1) = x + 1 := by have := HK.out; have := HR0.out.2.1; unfold wrap64; omega
      have f0 : decide (x < (l0.length : Int)) = true := decide_eq_true hlt
      have f1 : decide (0 ≤ x) = true := decide_eq_true p1
      replace p1 := eq_true p1
      replace q1 := eq_true q1
      clear hlt HK HRs hrs hrung hrest hcode hst gC lC y0 y1 y2
      go_upto_region 8 with (fail)
      obtain ⟨w5, hw5⟩ : ∃ w5, w5 = wr.alloc (.cells #[.int .i64 y.f0, .string y.f1, .slice AC y.f2.length cC] 43) := ⟨_, rfl⟩
      rw [← hw5]
      have hal : Below wr.heap.size wr w5 := by rw [hw5]; exact below_alloc (Below.refl _ _) _
      have HX5 : Aside0 (w5.heap[wr.heap.size]? = some (.cells #[.int .i64 y.f0, .string y.f1, .slice AC y.f2.length cC] 43 (0, 0))) := ⟨by rw [hw5]; exact heap_alloc_new wr _⟩
      have HM5 := Aside0.mk (Mach.step HM.out hal)
      have HU5 := Aside0.mk (Rows2.below HU.out hal)
      have hm3 : w5.cell? ⟨g, 3, none⟩ = some (.slice AS stx.length cS) := (blk_cell HM5.out.blk 3).trans rfl
      have fm3 : w5.frozen? ⟨g, 3, none⟩ = false := blk_frozen HM5.out.blk 3
      obtain ⟨gr, hgr⟩ : ∃ gr, gr = wr.heap.size := ⟨_, rfl⟩
      rw [← hgr] at HX5
      rw [← hgr]
      clear hal hw5 hgr HM HU hx0 hx1 hx2
      go_upto_region 9 with (fail)
      obtain ⟨w6, hw6⟩ : ∃ w6, w6 = w5.setCell ⟨g, 3, none⟩ (.slice none 0 0) := ⟨_, rfl⟩
      rw [← hw6]
      have hn := Mach.nil_ HM5.out
      rw [← hw6] at hn
      have HM6 := Aside0.mk hn.1
      have HU6 := Aside0.mk (Rows2.keepT HU5.out hn.2 HM5.out.blk)
      have HX6 := Aside0.mk (blk_keepT HX5.out hn.2 (by decide) HM5.out.blk (by decide))
      have hb2 : w6.cell? ⟨gr, 2, none⟩ = some (.slice AC y.f2.length cC) := (blk_cell HX6.out 2).trans rfl
      clear hn hw6 hm3 fm3 HM5 HU5 HX5
      go_wp2
      go_loopg [49] y.f2.length (fun kq v49 w' => ∃ (j : Int) (st : List Bool) (AS : Option Addr) (cS : Nat), v49 = .int .i64 j ∧ Aside0 (0 ≤ j ∧ j ≤ (y.f2.length : Int) ∧ (kq : Int) = y.f2.length - j) ∧ Aside0 (Mach w w' g nm s.1 l2 st AN cN AB cB A2 c2 AS cS) ∧ Aside0 (Rows2 w w' AN nm.length cN u10 u11 s.2.1 s.2.2) ∧ Aside0 (w'.heap[gr]? = some (.cells #[.int .i64 y.f0, .string y.f1, .slice AC y.f2.length cC] 43 (0, 0))) ∧ Aside0 (codeF k nm s.1 l2 (y.f2.drop j.toNat) st = some stE))
      case atStart => exact ⟨0, [], none, 0, rfl, ⟨by omega, by omega, by omega⟩, HM6, HU6, HX6, ⟨by simpa using HCode.out⟩⟩
      case round =>
        clear HM6 HU6 HX6 hb2 HCode
        obtain ⟨j, st, AS, cS, rfl, HJ, HM, HU, HX, HCd⟩ := hrel
        by_cases hjt : j < (y.f2.length : Int)
        · have p3 := HJ.out.1
          have q3 := hjt
          obtain ⟨ad2, A5, c5, e2, z0, z1, z2, z3, z4, z5, l5, g5⟩ := at_T40 HGC.out j p3 q3
          cases e2
          have hz0 := pw_cell_below HM.out.below z0
          have hz1 := pw_cell_below HM.out.below z1
          have hz2 := pw_cell_below HM.out.below z2
          have hz3 := pw_cell_below HM.out.below z3
          have hz4 := pw_cell_below HM.out.below z4
          have hz5 := pw_cell_below HM.out.below z5
          have hcd := HCd.out
          rw [drop_T40 p3 q3] at hcd
          generalize rd_T40 y.f2 j = z at *
          obtain ⟨st', hins, hcd⟩ := Option.bind_eq_some_iff.mp hcd
          have HIns := Aside0.mk hins
          have HCd2 := Aside0.mk hcd
          have HG5 := Aside0.mk g5
          have HL5 := Aside0.mk l5
          have HJJ : Aside0 (0 ≤ j ∧ j < (y.f2.length : Int) ∧ (gk : Int) = y.f2.length - j ∧ (y.f2.length : Int) ≤ 9223372036854775807) := ⟨by have := HJ.out; have := HGC.out.2.1; omega⟩
          have f3 : decide (j < (y.f2.length : Int)) = true := decide_eq_true hjt
          have f4 : decide (0 ≤ j) = true := decide_eq_true p3
          replace p3 := eq_true p3
          replace q3 := eq_true q3
          clear hjt HJ HCd hins hcd g5 l5 z0 z1 z2 z3 z4 z5
          go_wp2_with (first | (go_at_call 67; refine (do_calls k w _ g nm s.1 l2 st AN cN AB cB A2 c2 AS cS z A5 c5 (Mach.step HM.out (below_alloc (Below.refl _ _) _)) HG5.out HL5.out HT.out st' HIns.out).mono ?_; rintro e w7 ⟨rfl, AS7, cS7, hm7, hk7⟩; have HM7 := Aside0.mk hm7; have HU7 := Aside0.mk (Rows2.keepT (Rows2.below HU.out (below_alloc (Below.refl _ _) _)) hk7 (Mach.step HM.out (below_alloc (Below.refl _ _) _)).blk); have HX7 := Aside0.mk (blk_keepT (blk_below HX.out (below_alloc (Below.refl _ _) _)) hk7 (by decide) (Mach.step HM.out (below_alloc (Below.refl _ _) _)).blk (by decide)); clear hm7 hk7))
          go_roundg (gk - 1)
          case measure => have := HJJ.out; omega
          case rel => exact ⟨wrap64 (j + 1), st', AS7, cS7, rfl, ⟨by have := HJJ.out; unfold wrap64; omega⟩, HM7, HU7, HX7, ⟨by rw [show wrap64 (j + 1) = j + 1 from by have := HJJ.out; unfold wrap64; omega]; exact HCd2.out⟩⟩
        · have he : j = y.f2.length := by have := HJ.out; omega
          subst he
          have f3 : decide ((y.f2.length : Int) < (y.f2.length : Int)) = false := decide_eq_false (by omega)
          have hcd := HCd.out
          rw [List.drop_eq_nil_of_le (by omega)] at hcd
          have hse : st = stE := by simpa [codeF] using hcd
          subst hse
          clear HCd hcd HJ hjt
          obtain ⟨sb, hAS, hsb, hsok, hsty⟩ := R_blk HM.out.stk (by have := HST.out; omega)
          subst hAS
          have hcc := Kd.R_cell false HM.out.stk 0 (Int.le_refl 0) (by have := HST.out; omega)
          have hc0 : wr.cell? ⟨sb, 0, none⟩ = some (.bool (rdOf false st 0)) := hcc.1
          have hm3 : wr.cell? ⟨g, 3, none⟩ = some (.slice (some ⟨sb, 0, none⟩) st.length cS) := (blk_cell HM.out.blk 3).trans rfl
          have hb0 : wr.cell? ⟨gr, 0, none⟩ = some (.int .i64 y.f0) := (blk_cell HX.out 0).trans rfl
          have hb1 : wr.cell? ⟨gr, 1, none⟩ = some (.string y.f1) := (blk_cell HX.out 1).trans rfl
          have f5 : decide ((0 : Int) < (st.length : Int)) = true := decide_eq_true (by have := HST.out; omega)
          have p5 : ((0 : Int) < (st.length : Int)) = True := eq_true (by have := HST.out; omega)
          have f6 : decide (0 < st.length) = true := decide_eq_true (by have := HST.out; omega)
          have p6 : (0 < st.length) = True := eq_true (by have := HST.out; omega)
          have hrung := HRung.out
          obtain ⟨top, htop⟩ : ∃ top, rdOf false st 0 = top := ⟨_, rfl⟩
          rw [htop] at hc0 hrung
          clear HRung hcc hsb hsok hsty htop
          by_cases o0 : y.f0 = 0
          · rw [if_pos o0] at hrung
            have t0 : (y.f0 == 0) = true := beq_iff_eq.mpr o0
            obtain ⟨i, hix, hrung⟩ := Option.bind_eq_some_iff.mp hrung
            obtain ⟨hi1, hi2, hi3⟩ := idxF_some hix
            obtain rfl := Option.some.inj hrung
            obtain ⟨gb, hAB, hgb, _, _⟩ := R_blk HM.out.bts (by omega)
            subst hAB
            have hRb := Kd.R_cell false HM.out.bts i hi2 hi3
            obtain ⟨hcB, hfB⟩ := hRb
            have HBit := Aside0.mk (machine_bit k g wr AN cN nm gb s.1.length cB (.slice A2 l2.length c2) (.slice (some ⟨sb, 0, none⟩) st.length cS) y.f1 i HM.out.blk (Kd.R_reads' HM.out.nms).2.2 (Kd.R_reads' HM.out.nms).2.1 hi1 hi2 (by omega))
            have HGB := Aside0.mk hgb
            clear hix hi1 hi2 hi3 hgb hrung
            go_wp2_with (first | (go_at_call 68; refine HBit.out.mono ?_; rintro e w8 ⟨rfl, ⟨n1, rfl⟩⟩))
            go_roundg (go - 1)
            case measure => have := HKK.out; have := HGO.out; omega
            case rel =>
              have m8 := Mach.bit_ (Mach.step HM.out (pw_below_drewN (Below.refl _ wr) n1)) i top HGB.out
              have k8 := (KeepT.below (g := g) (pw_below_drewN (Below.refl _ wr) n1)).trans m8.2
              exact ⟨_, _, x + 1, (s.1.set i.toNat top, s.2.1, s.2.2), st, _, cS, rfl, rfl, (by first | rfl | rw [hw]), ⟨by have := HKK.out; omega⟩, ⟨m8.1⟩, ⟨Rows2.keepT HU.out k8 HM.out.blk⟩, HRest⟩
          rw [if_neg o0] at hrung
          have t0 : (y.f0 == 0) = false := beq_eq_false_iff_ne.mpr o0
          by_cases o1 : y.f0 = 1
          · rw [if_pos o1] at hrung
            have t1 : (y.f0 == 1) = true := beq_iff_eq.mpr o1
            cases top with
            | true =>
              rw [if_pos rfl] at hrung
              obtain ⟨i, hix, hrung⟩ := Option.bind_eq_some_iff.mp hrung
              obtain ⟨hi1, hi2, hi3⟩ := idxF_some hix
              obtain rfl := Option.some.inj hrung
              obtain ⟨gb, hAB, hgb, _, _⟩ := R_blk HM.out.bts (by omega)
              subst hAB
              have hRb := Kd.R_cell false HM.out.bts i hi2 hi3
              obtain ⟨hcB, hfB⟩ := hRb
              have HBit := Aside0.mk (machine_bit k g wr AN cN nm gb s.1.length cB (.slice A2 l2.length c2) (.slice (some ⟨sb, 0, none⟩) st.length cS) y.f1 i HM.out.blk (Kd.R_reads' HM.out.nms).2.2 (Kd.R_reads' HM.out.nms).2.1 hi1 hi2 (by omega))
              have HGB := Aside0.mk hgb
              clear hix hi1 hi2 hi3 hgb hrung
              go_wp2_with (first | (go_at_call 68; refine HBit.out.mono ?_; rintro e w8 ⟨rfl, ⟨n1, rfl⟩⟩))
              go_roundg (go - 1)
              case measure => have := HKK.out; have := HGO.out; omega
              case rel =>
                have m8 := Mach.bit_ (Mach.step HM.out (pw_below_drewN (Below.refl _ wr) n1)) i true HGB.out
                have k8 := (KeepT.below (g := g) (pw_below_drewN (Below.refl _ wr) n1)).trans m8.2
                exact ⟨_, _, x + 1, (s.1.set i.toNat true, s.2.1, s.2.2), st, _, cS, rfl, rfl, (by first | rfl | rw [hw]), ⟨by have := HKK.out; omega⟩, ⟨m8.1⟩, ⟨Rows2.keepT HU.out k8 HM.out.blk⟩, HRest⟩
            | false =>
              rw [if_neg (by decide)] at hrung
              obtain rfl := Option.some.inj hrung
              clear hrung
              go_wp2
              go_roundg (go - 1)
              case measure => have := HKK.out; have := HGO.out; omega
              case rel => exact ⟨_, _, x + 1, s, st, _, cS, rfl, rfl, (by first | rfl | rw [hw]), ⟨by have := HKK.out; omega⟩, ⟨Mach.step HM.out (by repeat (first | exact Below.refl _ _ | apply pw_below_drewN | apply below_drew1))⟩, ⟨Rows2.below HU.out (by repeat (first | exact Below.refl _ _ | apply pw_below_drewN | apply below_drew1))⟩, HRest⟩
          rw [if_neg o1] at hrung
          have t1 : (y.f0 == 1) = false := beq_eq_false_iff_ne.mpr o1
          by_cases o2 : y.f0 = 2
          · rw [if_pos o2] at hrung
            have t2 : (y.f0 == 2) = true := beq_iff_eq.mpr o2
            cases top with
            | true =>
              rw [if_pos rfl] at hrung
              obtain ⟨i, hix, hrung⟩ := Option.bind_eq_some_iff.mp hrung
              obtain ⟨hi1, hi2, hi3⟩ := idxF_some hix
              obtain rfl := Option.some.inj hrung
              obtain ⟨gb, hAB, hgb, _, _⟩ := R_blk HM.out.bts (by omega)
              subst hAB
              have hRb := Kd.R_cell false HM.out.bts i hi2 hi3
              obtain ⟨hcB, hfB⟩ := hRb
              have HBit := Aside0.mk (machine_bit k g wr AN cN nm gb s.1.length cB (.slice A2 l2.length c2) (.slice (some ⟨sb, 0, none⟩) st.length cS) y.f1 i HM.out.blk (Kd.R_reads' HM.out.nms).2.2 (Kd.R_reads' HM.out.nms).2.1 hi1 hi2 (by omega))
              have HGB := Aside0.mk hgb
              clear hix hi1 hi2 hi3 hgb hrung
              go_wp2_with (first | (go_at_call 68; refine HBit.out.mono ?_; rintro e w8 ⟨rfl, ⟨n1, rfl⟩⟩))
              go_roundg (go - 1)
              case measure => have := HKK.out; have := HGO.out; omega
              case rel =>
                have m8 := Mach.bit_ (Mach.step HM.out (pw_below_drewN (Below.refl _ wr) n1)) i false HGB.out
                have k8 := (KeepT.below (g := g) (pw_below_drewN (Below.refl _ wr) n1)).trans m8.2
                exact ⟨_, _, x + 1, (s.1.set i.toNat false, s.2.1, s.2.2), st, _, cS, rfl, rfl, (by first | rfl | rw [hw]), ⟨by have := HKK.out; omega⟩, ⟨m8.1⟩, ⟨Rows2.keepT HU.out k8 HM.out.blk⟩, HRest⟩
            | false =>
              rw [if_neg (by decide)] at hrung
              obtain rfl := Option.some.inj hrung
              clear hrung
              go_wp2
              go_roundg (go - 1)
              case measure => have := HKK.out; have := HGO.out; omega
              case rel => exact ⟨_, _, x + 1, s, st, _, cS, rfl, rfl, (by first | rfl | rw [hw]), ⟨by have := HKK.out; omega⟩, ⟨Mach.step HM.out (by repeat (first | exact Below.refl _ _ | apply pw_below_drewN | apply below_drew1))⟩, ⟨Rows2.below HU.out (by repeat (first | exact Below.refl _ _ | apply pw_below_drewN | apply below_drew1))⟩, HRest⟩
          rw [if_neg o2] at hrung
          have t2 : (y.f0 == 2) = false := beq_eq_false_iff_ne.mpr o2
          by_cases o3 : y.f0 = 3
          · rw [if_pos o3] at hrung
            have t3 : (y.f0 == 3) = true := beq_iff_eq.mpr o3
            cases top with
            | true =>
              rw [if_pos rfl] at hrung
              obtain rfl := Option.some.inj hrung
              clear hrung
              go_wp2
              go_roundg (go - 1)
              case measure => have := HKK.out; have := HGO.out; omega
              case rel => exact ⟨_, _, x + 1, s, st, _, cS, rfl, rfl, (by first | rfl | rw [hw]), ⟨by have := HKK.out; omega⟩, ⟨Mach.step HM.out (by repeat (first | exact Below.refl _ _ | apply pw_below_drewN | apply below_drew1))⟩, ⟨Rows2.below HU.out (by repeat (first | exact Below.refl _ _ | apply pw_below_drewN | apply below_drew1))⟩, HRest⟩
            | false =>
              rw [if_neg (by decide)] at hrung
              obtain ⟨h8, honce, hrung⟩ := Option.bind_eq_some_iff.mp hrung
              obtain rfl := Option.some.inj hrung
              have HOnce := Aside0.mk (rung_once.calls k (fun k_ => some k_ = (u10).ownBlock) u10 s.2.1 y.f1 h8 w wr HM.out.below (Kd.R_tight rfl HU.out.1) honce)
              clear hrung honce
              go_wp2_with (first | (go_at_call 58; refine HOnce.out.mono ?_; rintro e w8 ⟨v8, rfl, ho8, hb8, hk8⟩; have H8 := Aside0.mk (And.intro ho8 (And.intro hb8 hk8)); clear ho8 hb8 hk8))
              go_roundg (go - 1)
              case measure => have := HKK.out; have := HGO.out; omega
              case rel => exact ⟨_, _, x + 1, (s.1, h8, s.2.2), st, _, cS, rfl, rfl, (by first | rfl | rw [hw]), ⟨by have := HKK.out; omega⟩, ⟨Mach.names_ HM.out HU.out.1 (fun k e => (HU.out.1.1 k e).1) H8.out.2.1 H8.out.2.2⟩, ⟨Rows2.put HU.out HM.out.nms H8.out.1 H8.out.2.2⟩, HRest⟩
          rw [if_neg o3] at hrung
          have t3 : (y.f0 == 3) = false := beq_eq_false_iff_ne.mpr o3
          by_cases o4 : y.f0 = 4
          · rw [if_pos o4] at hrung
            have t4 : (y.f0 == 4) = true := beq_iff_eq.mpr o4
            cases top with
            | true =>
              rw [if_pos rfl] at hrung
              obtain rfl := Option.some.inj hrung
              clear hrung
              go_wp2
              go_roundg (go - 1)
              case measure => have := HKK.out; have := HGO.out; omega
              case rel => exact ⟨_, _, x + 1, s, st, _, cS, rfl, rfl, (by first | rfl | rw [hw]), ⟨by have := HKK.out; omega⟩, ⟨Mach.step HM.out (by repeat (first | exact Below.refl _ _ | apply pw_below_drewN | apply below_drew1))⟩, ⟨Rows2.below HU.out (by repeat (first | exact Below.refl _ _ | apply pw_below_drewN | apply below_drew1))⟩, HRest⟩
            | false =>
              rw [if_neg (by decide)] at hrung
              obtain ⟨h8, honce, hrung⟩ := Option.bind_eq_some_iff.mp hrung
              obtain rfl := Option.some.inj hrung
              have HOnce := Aside0.mk (rung_once.calls k (fun k_ => some k_ = (u11).ownBlock) u11 s.2.2 y.f1 h8 w wr HM.out.below (Kd.R_tight rfl HU.out.swap.1) honce)
              clear hrung honce
              go_wp2_with (first | (go_at_call 58; refine HOnce.out.mono ?_; rintro e w8 ⟨v8, rfl, ho8, hb8, hk8⟩; have H8 := Aside0.mk (And.intro ho8 (And.intro hb8 hk8)); clear ho8 hb8 hk8))
              go_roundg (go - 1)
              case measure => have := HKK.out; have := HGO.out; omega
              case rel => exact ⟨_, _, x + 1, (s.1, s.2.1, h8), st, _, cS, rfl, rfl, (by first | rfl | rw [hw]), ⟨by have := HKK.out; omega⟩, ⟨Mach.names_ HM.out HU.out.swap.1 (fun k e => (HU.out.swap.1.1 k e).1) H8.out.2.1 H8.out.2.2⟩, ⟨(Rows2.put HU.out.swap HM.out.nms H8.out.1 H8.out.2.2).swap⟩, HRest⟩
          rw [if_neg o4] at hrung
          have t4 : (y.f0 == 4) = false := beq_eq_false_iff_ne.mpr o4
          obtain rfl := Option.some.inj hrung
          clear hrung
          go_wp2
          go_roundg (go - 1)
          case measure => have := HKK.out; have := HGO.out; omega
          case rel => exact ⟨_, _, x + 1, s, st, _, cS, rfl, rfl, (by first | rfl | rw [hw]), ⟨by have := HKK.out; omega⟩, ⟨Mach.step HM.out (by repeat (first | exact Below.refl _ _ | apply pw_below_drewN | apply below_drew1))⟩, ⟨Rows2.below HU.out (by repeat (first | exact Below.refl _ _ | apply pw_below_drewN | apply below_drew1))⟩, HRest⟩
    · have he : x = l0.length := by have := HK.out; omega
      subst he
      have f0 : decide ((l0.length : Int) < (l0.length : Int)) = false := decide_eq_false (by omega)
      have hrs := HRs.out
      rw [List.drop_eq_nil_of_le (by omega)] at hrs
      have hsr : s = r := by simpa [rungsF] using hrs
      subst hsr
      have hm1 : wr.cell? ⟨g, 1, none⟩ = some (.slice AB s.1.length cB) := (blk_cell HM.out.blk 1).trans rfl
      clear HK hlt hrs HRs
      go_wp2
      refine bodyPost_ret (results_tmp3 rfl _ _ _) rfl ?_
      exact ⟨_, _, _, rfl, HM.out.bts, Kd.R_mono HU.out.1 (fun k hk => hk.2), Kd.R_mono HU.out.2 (fun k hk => hk.2), HM.out.below⟩
set_option maxHeartbeats 8000000 in
set_option maxRecDepth 100000 in
theorem rung_Run.calls (k : Nat) (A0 : Option Addr) (c0 : Nat) (l0 : List (S43)) (A1 : Option Addr) (c1 : Nat) (l1 : List Bool) (A2 : Option Addr) (c2 : Nat) (l2 : List (S69)) (r1 : List Bool) (r2 r3 : List ByteArray) (w : World) (hr0 : Kd.C k43 w A0 l0.length l0) (hc0 : l0.length ≤ c0) (hr1 : Kd.C Kd.bool w A1 l1.length l1) (hc1 : l1.length ≤ c1) (hr2 : Kd.C k69 w A2 l2.length l2) (hc2 : l2.length ≤ c2) (h : rung_Run.f k l0 l1 l2 = some (r1, r2, r3)) (hT : UT w) :
  Calls Tryd.prog 31 #[.slice A0 l0.length c0, .slice A1 l1.length c1, .slice A2 l2.length c2] w fun e w' => ∃ v0_ v1_ v2_ : Value, e = .returned (.tuple #[v0_, v1_, v2_]) ∧ Kd.R Kd.bool 4 w' w.heap.size (fun _ => True) v0_ r1 ∧ Kd.R Kd.string 9 w' w.heap.size (fun k_ => some k_ ≠ (v2_ : Value).ownBlock) v1_ r2 ∧ Kd.R Kd.string 9 w' w.heap.size (fun k_ => some k_ ≠ (v1_ : Value).ownBlock) v2_ r3 ∧ Below w.heap.size w w' := by
 unfold rung_Run.f at h
 obtain ⟨nm, hbi, h⟩ := Option.bind_eq_some_iff.mp h
 obtain ⟨bs, hcl, h⟩ := Option.bind_eq_some_iff.mp h
 obtain rfl := clone_f hcl
 by_cases hne : bs.length = nm.length
 ·rw [if_pos hne] at h
  obtain ⟨e, he, h⟩ := Option.bind_eq_some_iff.mp h
  by_cases h0 : e = 0
  ·rw [if_pos h0] at h
   subst h0
   exact Run_main k A0 c0 l0 A1 c1 bs A2 c2 l2 nm (r1, r2, r3) w hr0 hc0 hr1 hc1 hr2 hc2 hT hbi hcl hne he h
  ·rw [if_neg h0] at h
   simp at h
   obtain ⟨rfl, rfl, rfl⟩ := h
   exact Run_bad k A0 c0 l0 A1 c1 bs A2 c2 l2 nm e w hr0 hc0 hr1 hc1 hr2 hc2 hT hbi hcl hne he h0
 ·rw [if_neg hne] at h
  simp at h
  obtain ⟨rfl, rfl, rfl⟩ := h
  exact Run_len k A0 c0 l0 A1 c1 bs A2 c2 l2 nm w hr0 hc0 hr1 hc1 hr2 hc2 hbi hcl hne
end Go.Proofs.YtiaccdaeomaogaaDoor.F
namespace Go.Proofs.YtiaccdaeomaogaaDoor.F
open Go.RowKit Go.Proofs.YtiaccdaeomaogaaDoorW.PrintWords Go.Proofs.YtiaccdaeomaogaaDoorW.PrintLast Go.Proofs.YtiaccdaeomaogaaDoorW.PrintMore
attribute [local go_sem] max2_int min2_int max_two min_two max_three min_three max_four min_four   -- for this text's walks alone
set_option linter.unusedVariables false
set_option linter.unusedSimpArgs false
def malthouselaw09_awake.f (k : Nat)  : Option (Bool) := (malthouselaw09_below.f (⟨#[116]⟩ : ByteArray) 70).bind fun bt101 => ((some (([(⟨3, (⟨#[104, 101, 97, 116]⟩ : ByteArray), (([(⟨bt101.1, bt101.2.1, (⟨bt101.2.2.1, bt101.2.2.2.1, bt101.2.2.2.2.1, bt101.2.2.2.2.2⟩ : S34)⟩ : S40)] : List (S40)))⟩ : S43), (⟨0, (⟨#[98]⟩ : ByteArray), (([(⟨0, (⟨#[98]⟩ : ByteArray), (⟨0, 0, (⟨#[]⟩ : ByteArray), ([] : List (S34))⟩ : S34)⟩ : S40), (⟨9, (⟨#[]⟩ : ByteArray), (⟨0, 0, (⟨#[]⟩ : ByteArray), ([] : List (S34))⟩ : S34)⟩ : S40)] : List (S40)))⟩ : S43)] : List (S43)) : List (S43))).bind fun y115 => ((rung_Run.f k y115 (([false] : List Bool)) (([(⟨(⟨#[116]⟩ : ByteArray), 80⟩ : S69)] : List (S69)))).bind fun bt124 => ((rung_Check.f k y115 (([(⟨#[116]⟩ : ByteArray)] : List ByteArray)) (([(⟨#[104, 101, 97, 116]⟩ : ByteArray)] : List ByteArray))).bind fun t139 => ((rung_Check.f k y115 (([(⟨#[116]⟩ : ByteArray)] : List ByteArray)) ([] : List ByteArray)).bind fun t143 => (if t139 = 0 then (if t143 = 21 then (if (bt124.1.length : Int) = 1 then (if 0 < (bt124.1.length : Int) then (if rdOf false bt124.1 0 = true then (if (bt124.2.1.length : Int) = 1 then (if 0 < (bt124.2.1.length : Int) then (if (rdOf ByteArray.empty bt124.2.1 0).toList = ([104, 101, 97, 116] : List UInt8) then (some ((bt124.2.2.length : Int) == 0)) else (some false)) else (none)) else (some false)) else (some false)) else (none)) else (some false)) else (some false)) else (some false))))))
theorem malthouselaw09_awake.mono : ∀ k, LeO (malthouselaw09_awake.f k ) (malthouselaw09_awake.f (k + 1) ) := by
  intro  k
  unfold malthouselaw09_awake.f
  repeat' first
      | (with_reducible exact rung_Check.mono _ _ _ _)
      | (with_reducible exact rung_Run.mono _ _ _ _)
      | (with_reducible exact LeO.refl _)
      | (with_reducible exact LeO.none _)
      | (with_reducible refine LeO.ite ?_ ?_)
      | (with_reducible refine LeO.bind ?_ (fun _ => ?_))
      | exact rung_Check.mono _ _ _ _
      | exact rung_Run.mono _ _ _ _
      | exact LeO.none _
      | refine LeO.ite ?_ ?_
      | refine LeO.bind ?_ (fun _ => ?_)
set_option maxHeartbeats 8000000 in
set_option maxRecDepth 100000 in
theorem malthouselaw09_awake.calls (k : Nat)  (r : Bool) (w : World) (h : malthouselaw09_awake.f k  = some r) (hT : UT w) (hR : r = true) :
  Calls Tryd.prog 19 #[] w fun e w' => e = .returned (.bool r) ∧ Below w.heap.size w w' := by
 have HT0 := Aside0.mk hT
 clear hT
 have HRT := Aside0.mk hR
 clear hR
 have hu43 := Tryd.underlying43
 have hu40 := Tryd.underlying40
 have hu69 := Tryd.underlying69
 have HB := Aside0.mk (Below.refl w.heap.size w)
 have H : ((malthouselaw09_below.f (⟨#[116]⟩ : ByteArray) 70).bind fun bt101 => ((some (([(⟨3, (⟨#[104, 101, 97, 116]⟩ : ByteArray), (([(⟨bt101.1, bt101.2.1, (⟨bt101.2.2.1, bt101.2.2.2.1, bt101.2.2.2.2.1, bt101.2.2.2.2.2⟩ : S34)⟩ : S40)] : List (S40)))⟩ : S43), (⟨0, (⟨#[98]⟩ : ByteArray), (([(⟨0, (⟨#[98]⟩ : ByteArray), (⟨0, 0, (⟨#[]⟩ : ByteArray), ([] : List (S34))⟩ : S34)⟩ : S40), (⟨9, (⟨#[]⟩ : ByteArray), (⟨0, 0, (⟨#[]⟩ : ByteArray), ([] : List (S34))⟩ : S34)⟩ : S40)] : List (S40)))⟩ : S43)] : List (S43)) : List (S43))).bind fun y115 => ((rung_Run.f k y115 (([false] : List Bool)) (([(⟨(⟨#[116]⟩ : ByteArray), 80⟩ : S69)] : List (S69)))).bind fun bt124 => ((rung_Check.f k y115 (([(⟨#[116]⟩ : ByteArray)] : List ByteArray)) (([(⟨#[104, 101, 97, 116]⟩ : ByteArray)] : List ByteArray))).bind fun t139 => ((rung_Check.f k y115 (([(⟨#[116]⟩ : ByteArray)] : List ByteArray)) ([] : List ByteArray)).bind fun t143 => (if t139 = 0 then (if t143 = 21 then (if (bt124.1.length : Int) = 1 then (if 0 < (bt124.1.length : Int) then (if rdOf false bt124.1 0 = true then (if (bt124.2.1.length : Int) = 1 then (if 0 < (bt124.2.1.length : Int) then (if (rdOf ByteArray.empty bt124.2.1 0).toList = ([104, 101, 97, 116] : List UInt8) then (some ((bt124.2.2.length : Int) == 0)) else (some false)) else (none)) else (some false)) else (some false)) else (none)) else (some false)) else (some false)) else (some false))))))) = some r := h
 clear h
 replace H := Option.bind_eq_some_iff.mp H
 obtain ⟨⟨t101, t102, t103, t104, t105, t106⟩, A10, H⟩ := H
 replace H : ((some (([(⟨3, (⟨#[104, 101, 97, 116]⟩ : ByteArray), (([(⟨t101, t102, (⟨t103, t104, t105, t106⟩ : S34)⟩ : S40)] : List (S40)))⟩ : S43), (⟨0, (⟨#[98]⟩ : ByteArray), (([(⟨0, (⟨#[98]⟩ : ByteArray), (⟨0, 0, (⟨#[]⟩ : ByteArray), ([] : List (S34))⟩ : S34)⟩ : S40), (⟨9, (⟨#[]⟩ : ByteArray), (⟨0, 0, (⟨#[]⟩ : ByteArray), ([] : List (S34))⟩ : S34)⟩ : S40)] : List (S40)))⟩ : S43)] : List (S43)) : List (S43))).bind fun y115 => ((rung_Run.f k y115 (([false] : List Bool)) (([(⟨(⟨#[116]⟩ : ByteArray), 80⟩ : S69)] : List (S69)))).bind fun bt124 => ((rung_Check.f k y115 (([(⟨#[116]⟩ : ByteArray)] : List ByteArray)) (([(⟨#[104, 101, 97, 116]⟩ : ByteArray)] : List ByteArray))).bind fun t139 => ((rung_Check.f k y115 (([(⟨#[116]⟩ : ByteArray)] : List ByteArray)) ([] : List ByteArray)).bind fun t143 => (if t139 = 0 then (if t143 = 21 then (if (bt124.1.length : Int) = 1 then (if 0 < (bt124.1.length : Int) then (if rdOf false bt124.1 0 = true then (if (bt124.2.1.length : Int) = 1 then (if 0 < (bt124.2.1.length : Int) then (if (rdOf ByteArray.empty bt124.2.1 0).toList = ([104, 101, 97, 116] : List UInt8) then (some ((bt124.2.2.length : Int) == 0)) else (some false)) else (none)) else (some false)) else (some false)) else (none)) else (some false)) else (some false)) else (some false)))))) = some r := H
 have A1 := Aside0.mk A10
 clear A10
 obtain ⟨y109, hy109⟩ : ∃ y_ : List (S40), y_ = (([(⟨t101, t102, (⟨t103, t104, t105, t106⟩ : S34)⟩ : S40)] : List (S40))) := ⟨_, rfl⟩
 replace H : ((some (([(⟨3, (⟨#[104, 101, 97, 116]⟩ : ByteArray), y109⟩ : S43), (⟨0, (⟨#[98]⟩ : ByteArray), (([(⟨0, (⟨#[98]⟩ : ByteArray), (⟨0, 0, (⟨#[]⟩ : ByteArray), ([] : List (S34))⟩ : S34)⟩ : S40), (⟨9, (⟨#[]⟩ : ByteArray), (⟨0, 0, (⟨#[]⟩ : ByteArray), ([] : List (S34))⟩ : S34)⟩ : S40)] : List (S40)))⟩ : S43)] : List (S43)) : List (S43))).bind fun y115 => ((rung_Run.f k y115 (([false] : List Bool)) (([(⟨(⟨#[116]⟩ : ByteArray), 80⟩ : S69)] : List (S69)))).bind fun bt124 => ((rung_Check.f k y115 (([(⟨#[116]⟩ : ByteArray)] : List ByteArray)) (([(⟨#[104, 101, 97, 116]⟩ : ByteArray)] : List ByteArray))).bind fun t139 => ((rung_Check.f k y115 (([(⟨#[116]⟩ : ByteArray)] : List ByteArray)) ([] : List ByteArray)).bind fun t143 => (if t139 = 0 then (if t143 = 21 then (if (bt124.1.length : Int) = 1 then (if 0 < (bt124.1.length : Int) then (if rdOf false bt124.1 0 = true then (if (bt124.2.1.length : Int) = 1 then (if 0 < (bt124.2.1.length : Int) then (if (rdOf ByteArray.empty bt124.2.1 0).toList = ([104, 101, 97, 116] : List UInt8) then (some ((bt124.2.2.length : Int) == 0)) else (some false)) else (none)) else (some false)) else (some false)) else (none)) else (some false)) else (some false)) else (some false)))))) = some r := by first | (rw [hy109]; with_reducible exact H) | (have H2_ := (Option.bind_some _ _).symm.trans H; rw [hy109]; with_reducible exact H2_) | (have H2_ := (Option.bind_some _ _).symm.trans H; with_reducible exact H2_) | with_reducible exact H | (rw [hy109]; exact H) | exact H
 have Ny109 := Aside0.mk hy109
 clear hy109
 obtain ⟨y112, hy112⟩ : ∃ y_ : List (S40), y_ = (([(⟨0, (⟨#[98]⟩ : ByteArray), (⟨0, 0, (⟨#[]⟩ : ByteArray), ([] : List (S34))⟩ : S34)⟩ : S40), (⟨9, (⟨#[]⟩ : ByteArray), (⟨0, 0, (⟨#[]⟩ : ByteArray), ([] : List (S34))⟩ : S34)⟩ : S40)] : List (S40))) := ⟨_, rfl⟩
 replace H : ((some (([(⟨3, (⟨#[104, 101, 97, 116]⟩ : ByteArray), y109⟩ : S43), (⟨0, (⟨#[98]⟩ : ByteArray), y112⟩ : S43)] : List (S43)) : List (S43))).bind fun y115 => ((rung_Run.f k y115 (([false] : List Bool)) (([(⟨(⟨#[116]⟩ : ByteArray), 80⟩ : S69)] : List (S69)))).bind fun bt124 => ((rung_Check.f k y115 (([(⟨#[116]⟩ : ByteArray)] : List ByteArray)) (([(⟨#[104, 101, 97, 116]⟩ : ByteArray)] : List ByteArray))).bind fun t139 => ((rung_Check.f k y115 (([(⟨#[116]⟩ : ByteArray)] : List ByteArray)) ([] : List ByteArray)).bind fun t143 => (if t139 = 0 then (if t143 = 21 then (if (bt124.1.length : Int) = 1 then (if 0 < (bt124.1.length : Int) then (if rdOf false bt124.1 0 = true then (if (bt124.2.1.length : Int) = 1 then (if 0 < (bt124.2.1.length : Int) then (if (rdOf ByteArray.empty bt124.2.1 0).toList = ([104, 101, 97, 116] : List UInt8) then (some ((bt124.2.2.length : Int) == 0)) else (some false)) else (none)) else (some false)) else (some false)) else (none)) else (some false)) else (some false)) else (some false)))))) = some r := by first | (rw [hy112]; with_reducible exact H) | (have H2_ := (Option.bind_some _ _).symm.trans H; rw [hy112]; with_reducible exact H2_) | (have H2_ := (Option.bind_some _ _).symm.trans H; with_reducible exact H2_) | with_reducible exact H | (rw [hy112]; exact H) | exact H
 have Ny112 := Aside0.mk hy112
 clear hy112
 obtain ⟨y115, hy115⟩ : ∃ y_ : List (S43), y_ = (([(⟨3, (⟨#[104, 101, 97, 116]⟩ : ByteArray), y109⟩ : S43), (⟨0, (⟨#[98]⟩ : ByteArray), y112⟩ : S43)] : List (S43))) := ⟨_, rfl⟩
 replace H : ((rung_Run.f k y115 (([false] : List Bool)) (([(⟨(⟨#[116]⟩ : ByteArray), 80⟩ : S69)] : List (S69)))).bind fun bt124 => ((rung_Check.f k y115 (([(⟨#[116]⟩ : ByteArray)] : List ByteArray)) (([(⟨#[104, 101, 97, 116]⟩ : ByteArray)] : List ByteArray))).bind fun t139 => ((rung_Check.f k y115 (([(⟨#[116]⟩ : ByteArray)] : List ByteArray)) ([] : List ByteArray)).bind fun t143 => (if t139 = 0 then (if t143 = 21 then (if (bt124.1.length : Int) = 1 then (if 0 < (bt124.1.length : Int) then (if rdOf false bt124.1 0 = true then (if (bt124.2.1.length : Int) = 1 then (if 0 < (bt124.2.1.length : Int) then (if (rdOf ByteArray.empty bt124.2.1 0).toList = ([104, 101, 97, 116] : List UInt8) then (some ((bt124.2.2.length : Int) == 0)) else (some false)) else (none)) else (some false)) else (some false)) else (none)) else (some false)) else (some false)) else (some false))))) = some r := by first | (rw [hy115]; with_reducible exact H) | (have H2_ := (Option.bind_some _ _).symm.trans H; rw [hy115]; with_reducible exact H2_) | (have H2_ := (Option.bind_some _ _).symm.trans H; with_reducible exact H2_) | with_reducible exact H | (rw [hy115]; exact H) | exact H
 have Ny115 := Aside0.mk hy115
 clear hy115
 obtain ⟨y118, hy118⟩ : ∃ y_ : List Bool, y_ = (([false] : List Bool)) := ⟨_, rfl⟩
 replace H : ((rung_Run.f k y115 y118 (([(⟨(⟨#[116]⟩ : ByteArray), 80⟩ : S69)] : List (S69)))).bind fun bt124 => ((rung_Check.f k y115 (([(⟨#[116]⟩ : ByteArray)] : List ByteArray)) (([(⟨#[104, 101, 97, 116]⟩ : ByteArray)] : List ByteArray))).bind fun t139 => ((rung_Check.f k y115 (([(⟨#[116]⟩ : ByteArray)] : List ByteArray)) ([] : List ByteArray)).bind fun t143 => (if t139 = 0 then (if t143 = 21 then (if (bt124.1.length : Int) = 1 then (if 0 < (bt124.1.length : Int) then (if rdOf false bt124.1 0 = true then (if (bt124.2.1.length : Int) = 1 then (if 0 < (bt124.2.1.length : Int) then (if (rdOf ByteArray.empty bt124.2.1 0).toList = ([104, 101, 97, 116] : List UInt8) then (some ((bt124.2.2.length : Int) == 0)) else (some false)) else (none)) else (some false)) else (some false)) else (none)) else (some false)) else (some false)) else (some false))))) = some r := by first | (rw [hy118]; with_reducible exact H) | (have H2_ := (Option.bind_some _ _).symm.trans H; rw [hy118]; with_reducible exact H2_) | (have H2_ := (Option.bind_some _ _).symm.trans H; with_reducible exact H2_) | with_reducible exact H | (rw [hy118]; exact H) | exact H
 have Ny118 := Aside0.mk hy118
 clear hy118
 obtain ⟨y121, hy121⟩ : ∃ y_ : List (S69), y_ = (([(⟨(⟨#[116]⟩ : ByteArray), 80⟩ : S69)] : List (S69))) := ⟨_, rfl⟩
 replace H : ((rung_Run.f k y115 y118 y121).bind fun bt124 => ((rung_Check.f k y115 (([(⟨#[116]⟩ : ByteArray)] : List ByteArray)) (([(⟨#[104, 101, 97, 116]⟩ : ByteArray)] : List ByteArray))).bind fun t139 => ((rung_Check.f k y115 (([(⟨#[116]⟩ : ByteArray)] : List ByteArray)) ([] : List ByteArray)).bind fun t143 => (if t139 = 0 then (if t143 = 21 then (if (bt124.1.length : Int) = 1 then (if 0 < (bt124.1.length : Int) then (if rdOf false bt124.1 0 = true then (if (bt124.2.1.length : Int) = 1 then (if 0 < (bt124.2.1.length : Int) then (if (rdOf ByteArray.empty bt124.2.1 0).toList = ([104, 101, 97, 116] : List UInt8) then (some ((bt124.2.2.length : Int) == 0)) else (some false)) else (none)) else (some false)) else (some false)) else (none)) else (some false)) else (some false)) else (some false))))) = some r := by first | (rw [hy121]; with_reducible exact H) | (have H2_ := (Option.bind_some _ _).symm.trans H; rw [hy121]; with_reducible exact H2_) | (have H2_ := (Option.bind_some _ _).symm.trans H; with_reducible exact H2_) | with_reducible exact H | (rw [hy121]; exact H) | exact H
 have Ny121 := Aside0.mk hy121
 clear hy121
 replace H := Option.bind_eq_some_iff.mp H
 obtain ⟨⟨t124, t125, t126⟩, A20, H⟩ := H
 replace H : ((rung_Check.f k y115 (([(⟨#[116]⟩ : ByteArray)] : List ByteArray)) (([(⟨#[104, 101, 97, 116]⟩ : ByteArray)] : List ByteArray))).bind fun t139 => ((rung_Check.f k y115 (([(⟨#[116]⟩ : ByteArray)] : List ByteArray)) ([] : List ByteArray)).bind fun t143 => (if t139 = 0 then (if t143 = 21 then (if (t124.length : Int) = 1 then (if 0 < (t124.length : Int) then (if rdOf false t124 0 = true then (if (t125.length : Int) = 1 then (if 0 < (t125.length : Int) then (if (rdOf ByteArray.empty t125 0).toList = ([104, 101, 97, 116] : List UInt8) then (some ((t126.length : Int) == 0)) else (some false)) else (none)) else (some false)) else (some false)) else (none)) else (some false)) else (some false)) else (some false)))) = some r := H
 have A2 := Aside0.mk A20
 clear A20
 obtain ⟨y133, hy133⟩ : ∃ y_ : List ByteArray, y_ = (([(⟨#[116]⟩ : ByteArray)] : List ByteArray)) := ⟨_, rfl⟩
 replace H : ((rung_Check.f k y115 y133 (([(⟨#[104, 101, 97, 116]⟩ : ByteArray)] : List ByteArray))).bind fun t139 => ((rung_Check.f k y115 (([(⟨#[116]⟩ : ByteArray)] : List ByteArray)) ([] : List ByteArray)).bind fun t143 => (if t139 = 0 then (if t143 = 21 then (if (t124.length : Int) = 1 then (if 0 < (t124.length : Int) then (if rdOf false t124 0 = true then (if (t125.length : Int) = 1 then (if 0 < (t125.length : Int) then (if (rdOf ByteArray.empty t125 0).toList = ([104, 101, 97, 116] : List UInt8) then (some ((t126.length : Int) == 0)) else (some false)) else (none)) else (some false)) else (some false)) else (none)) else (some false)) else (some false)) else (some false)))) = some r := by first | (rw [hy133]; with_reducible exact H) | (have H2_ := (Option.bind_some _ _).symm.trans H; rw [hy133]; with_reducible exact H2_) | (have H2_ := (Option.bind_some _ _).symm.trans H; with_reducible exact H2_) | with_reducible exact H | (rw [hy133]; exact H) | exact H
 have Ny133 := Aside0.mk hy133
 clear hy133
 obtain ⟨y136, hy136⟩ : ∃ y_ : List ByteArray, y_ = (([(⟨#[104, 101, 97, 116]⟩ : ByteArray)] : List ByteArray)) := ⟨_, rfl⟩
 replace H : ((rung_Check.f k y115 y133 y136).bind fun t139 => ((rung_Check.f k y115 (([(⟨#[116]⟩ : ByteArray)] : List ByteArray)) ([] : List ByteArray)).bind fun t143 => (if t139 = 0 then (if t143 = 21 then (if (t124.length : Int) = 1 then (if 0 < (t124.length : Int) then (if rdOf false t124 0 = true then (if (t125.length : Int) = 1 then (if 0 < (t125.length : Int) then (if (rdOf ByteArray.empty t125 0).toList = ([104, 101, 97, 116] : List UInt8) then (some ((t126.length : Int) == 0)) else (some false)) else (none)) else (some false)) else (some false)) else (none)) else (some false)) else (some false)) else (some false)))) = some r := by first | (rw [hy136]; with_reducible exact H) | (have H2_ := (Option.bind_some _ _).symm.trans H; rw [hy136]; with_reducible exact H2_) | (have H2_ := (Option.bind_some _ _).symm.trans H; with_reducible exact H2_) | with_reducible exact H | (rw [hy136]; exact H) | exact H
 have Ny136 := Aside0.mk hy136
 clear hy136
 replace H := Option.bind_eq_some_iff.mp H
 obtain ⟨t139, A30, H⟩ := H
 replace H : ((rung_Check.f k y115 (([(⟨#[116]⟩ : ByteArray)] : List ByteArray)) ([] : List ByteArray)).bind fun t143 => (if t139 = 0 then (if t143 = 21 then (if (t124.length : Int) = 1 then (if 0 < (t124.length : Int) then (if rdOf false t124 0 = true then (if (t125.length : Int) = 1 then (if 0 < (t125.length : Int) then (if (rdOf ByteArray.empty t125 0).toList = ([104, 101, 97, 116] : List UInt8) then (some ((t126.length : Int) == 0)) else (some false)) else (none)) else (some false)) else (some false)) else (none)) else (some false)) else (some false)) else (some false))) = some r := H
 have A3 := Aside0.mk A30
 clear A30
 obtain ⟨y140, hy140⟩ : ∃ y_ : List ByteArray, y_ = (([(⟨#[116]⟩ : ByteArray)] : List ByteArray)) := ⟨_, rfl⟩
 replace H : ((rung_Check.f k y115 y140 ([] : List ByteArray)).bind fun t143 => (if t139 = 0 then (if t143 = 21 then (if (t124.length : Int) = 1 then (if 0 < (t124.length : Int) then (if rdOf false t124 0 = true then (if (t125.length : Int) = 1 then (if 0 < (t125.length : Int) then (if (rdOf ByteArray.empty t125 0).toList = ([104, 101, 97, 116] : List UInt8) then (some ((t126.length : Int) == 0)) else (some false)) else (none)) else (some false)) else (some false)) else (none)) else (some false)) else (some false)) else (some false))) = some r := by first | (rw [hy140]; with_reducible exact H) | (have H2_ := (Option.bind_some _ _).symm.trans H; rw [hy140]; with_reducible exact H2_) | (have H2_ := (Option.bind_some _ _).symm.trans H; with_reducible exact H2_) | with_reducible exact H | (rw [hy140]; exact H) | exact H
 have Ny140 := Aside0.mk hy140
 clear hy140
 replace H := Option.bind_eq_some_iff.mp H
 obtain ⟨t143, A40, H⟩ := H
 replace H : (if t139 = 0 then (if t143 = 21 then (if (t124.length : Int) = 1 then (if 0 < (t124.length : Int) then (if rdOf false t124 0 = true then (if (t125.length : Int) = 1 then (if 0 < (t125.length : Int) then (if (rdOf ByteArray.empty t125 0).toList = ([104, 101, 97, 116] : List UInt8) then (some ((t126.length : Int) == 0)) else (some false)) else (none)) else (some false)) else (some false)) else (none)) else (some false)) else (some false)) else (some false)) = some r := H
 have A4 := Aside0.mk A40
 clear A40
 by_cases c5 : t139 = 0
 ·rw [if_pos c5] at H
  have c5b0 : (t139 == 0) = true := beq_iff_eq.mpr c5
  have c5b1 : (t139 != 0) = false := bne_eq_false_iff_eq.mpr c5
  clear c5
  by_cases c6 : t143 = 21
  ·rw [if_pos c6] at H
   have c6b0 : (t143 == 21) = true := beq_iff_eq.mpr c6
   have c6b1 : (t143 != 21) = false := bne_eq_false_iff_eq.mpr c6
   clear c6
   by_cases c7 : (t124.length : Int) = 1
   ·rw [if_pos c7] at H
    have c7b0 : ((t124.length : Int) == 1) = true := beq_iff_eq.mpr c7
    have c7b1 : ((t124.length : Int) != 1) = false := bne_eq_false_iff_eq.mpr c7
    clear c7
    by_cases c8 : 0 < (t124.length : Int)
    ·rw [if_pos c8] at H
     have c8b0 : decide (0 < (t124.length : Int)) = true := decide_eq_true c8
     have c8b1 : decide (0 < t124.length) = true := decide_eq_true (by omega)
     clear c8
     obtain ⟨bq9, hbq9⟩ : ∃ b_ : Bool, b_ = (rdOf false t124 0) := ⟨_, rfl⟩
     replace H : (if bq9 = true then (if (t125.length : Int) = 1 then (if 0 < (t125.length : Int) then (if (rdOf ByteArray.empty t125 0).toList = ([104, 101, 97, 116] : List UInt8) then (some ((t126.length : Int) == 0)) else (some false)) else (none)) else (some false)) else (some false)) = some r := by rw [← hbq9] at H; exact H
     have Nbq9 := Aside0.mk hbq9
     clear hbq9
     by_cases c10 : bq9 = true
     ·subst c10
      have H1 : (if (t125.length : Int) = 1 then (if 0 < (t125.length : Int) then (if (rdOf ByteArray.empty t125 0).toList = ([104, 101, 97, 116] : List UInt8) then (some ((t126.length : Int) == 0)) else (some false)) else (none)) else (some false)) = some r := by rw [if_pos rfl] at H; exact H
      clear H
      have H := H1
      clear H1
      by_cases c11 : (t125.length : Int) = 1
      ·rw [if_pos c11] at H
       have c11b0 : ((t125.length : Int) == 1) = true := beq_iff_eq.mpr c11
       have c11b1 : ((t125.length : Int) != 1) = false := bne_eq_false_iff_eq.mpr c11
       clear c11
       by_cases c12 : 0 < (t125.length : Int)
       ·rw [if_pos c12] at H
        have c12b0 : decide (0 < (t125.length : Int)) = true := decide_eq_true c12
        have c12b1 : decide (0 < t125.length) = true := decide_eq_true (by omega)
        clear c12
        by_cases c13 : (rdOf ByteArray.empty t125 0).toList = ([104, 101, 97, 116] : List UInt8)
        ·rw [if_pos c13] at H
         have c13b0 : ((rdOf ByteArray.empty t125 0).toList == ([104, 101, 97, 116] : List UInt8)) = true := beq_iff_eq.mpr c13
         have c13b1 : ((rdOf ByteArray.empty t125 0).toList != ([104, 101, 97, 116] : List UInt8)) = false := bne_eq_false_iff_eq.mpr c13
         clear c13
         obtain rfl := Option.some.inj H
         go_enter Tryd.func19, Tryd.ntmps19
         go_wp2_with (first | ((with_reducible refine gate_callee (f := 57) rfl ?_); refine goesL_ (some 7) rfl rfl Tryd.func57 (by kernel_rfl) rfl #[.string (⟨#[116]⟩ : ByteArray), .int .i64 70] rfl (by (try simp only [List.map_toArray, List.map_cons, List.map_nil]); first | done | rfl | (simp only [List.length_drop, List.length_take]; rfl)) ?_; (with_reducible refine (malthouselaw09_below.calls (⟨#[116]⟩ : ByteArray) 70 t101 t102 t103 t104 t105 t106 _ A1.out).mono ?_); rintro e w14 ⟨v107, rfl, ho0, hb⟩; refine ⟨_, rfl, ?_⟩; have n0_ := Aside0.mk (Kd.N_lower (Kd.N_mono (ok' := fun k_ => True) (Kd.R_N (Kd.R_bound ho0)) (fun k_ hk_ => trivial)) (below_size (by repeat (first | (with_reducible first | exact HB.out | apply below_alloc | apply pw_below_drewN | apply below_drew1) | exact HB.out)))); have n1_ := Aside0.mk (below_step (by repeat (first | (with_reducible first | exact HB.out | apply below_alloc | apply pw_below_drewN | apply below_drew1) | exact HB.out)) hb); clear HB; have HO108 := n0_; have HB := n1_; clear n0_ n1_; (try clear hb); (try clear hb2); (try clear hk); (try clear hi); (try clear ho0); obtain ⟨Ao15, co15, eo15⟩ := Kd.N_slice HO108.out; subst eo15) | ((with_reducible refine gate_dst (N := 8) rfl ?_); (try (refine gate_guard (by rfl) ?_; dsimp only)); refine Kd.N_lit k40 _ 40 ?hg (N' := 8) ?hd (xs := ([(⟨t101, t102, (⟨t103, t104, t105, t106⟩ : S34)⟩ : S40)] : List (S40))) (inner := [.int .i64 t101, .string t102, .int .i64 t103, .int .i64 t104, .string t105, .slice Ao15 t106.length co15]) (ok := (fun _ => True)) (okp := (fun _ => True)) ?hr ?hp (fun _ hk => hk) ((show ∀ k_, w14.heap.size ≤ k_ → (fun _ => True) k_ from fun k_ hk => trivial) _ (Nat.le_refl _)) (Below.refl _ _) (Nat.le_refl _) (by simp) ?_; (case hd => rfl); (case hg => rfl); (case hr => first | (go_simp; done) | (go_simp; rfl)); (case hp => exact (Reps.c6 (show Kd.FK k40 _ _ (⟨t101, t102, (⟨t103, t104, t105, t106⟩ : S34)⟩ : S40) [.int .i64 t101, .string t102, .int .i64 t103, .int .i64 t104, .string t105, .slice Ao15 t106.length co15] from (k40_mkF _ _ (⟨t101, t102, (⟨t103, t104, t105, t106⟩ : S34)⟩ : S40) (Kd.N_reads' (Kd.N_mono (ok' := (fun _ => True)) (HO108.out) (fun k_ hk => trivial))).2.1 (Kd.N_F (Kd.N_mono (ok' := (fun _ => True)) (HO108.out) (fun k_ hk => trivial))))) (Reps.none _ _))); intro v110 w16 ho17 hb hg_ hnew_; clear hg_ hnew_; (first | rw [← Ny109.out] at ho17 | (simp only [Int.reduceToNat] at ho17; rw [← Ny109.out] at ho17)); have n0_ := Aside0.mk (Kd.N_lower ho17 (below_size (by repeat (first | (with_reducible first | exact HB.out | apply below_alloc | apply pw_below_drewN | apply below_drew1) | exact HB.out)))); have n1_ := Aside0.mk (below_step (by repeat (first | (with_reducible first | exact HB.out | apply below_alloc | apply pw_below_drewN | apply below_drew1) | exact HB.out)) hb); clear HB; clear HO108; have HO111 := n0_; have HB := n1_; clear n0_ n1_; clear hb ho17; obtain ⟨Ao18, co18, eo18⟩ := Kd.N_slice HO111.out; subst eo18) | ((with_reducible refine gate_dst (N := 12) rfl ?_); (try (refine gate_guard (by rfl) ?_; dsimp only)); refine Kd.N_lit k40 _ 40 ?hg (N' := 12) ?hd (xs := ([(⟨0, (⟨#[98]⟩ : ByteArray), (⟨0, 0, (⟨#[]⟩ : ByteArray), ([] : List (S34))⟩ : S34)⟩ : S40), (⟨9, (⟨#[]⟩ : ByteArray), (⟨0, 0, (⟨#[]⟩ : ByteArray), ([] : List (S34))⟩ : S34)⟩ : S40)] : List (S40))) (inner := [.int .i64 0, .string (⟨#[98]⟩ : ByteArray), .int .i64 0, .int .i64 0, .string (⟨#[]⟩ : ByteArray), .slice none 0 0, .int .i64 9, .string (⟨#[]⟩ : ByteArray), .int .i64 0, .int .i64 0, .string (⟨#[]⟩ : ByteArray), .slice none 0 0]) (ok := (fun k_ => some k_ ≠ (.slice Ao18 y109.length co18 : Value).ownBlock)) (okp := (fun k_ => some k_ ≠ (.slice Ao18 y109.length co18 : Value).ownBlock)) ?hr ?hp (fun _ hk => hk) ((show ∀ k_, w16.heap.size ≤ k_ → (fun k_ => some k_ ≠ (.slice Ao18 y109.length co18 : Value).ownBlock) k_ from fun k_ hk => Kd.fresh' (Kd.N_lt (by (with_reducible repeat (first | apply Kd.N_alloc | apply Kd.N_drewN | apply Kd.N_drew)); exact HO111.out)) k_ hk) _ (Nat.le_refl _)) (Below.refl _ _) (Nat.le_refl _) (by simp) ?_; (case hd => rfl); (case hg => rfl); (case hr => first | (go_simp; done) | (go_simp; rfl)); (case hp => exact (Reps.c6 (show Kd.FK k40 _ _ (⟨0, (⟨#[98]⟩ : ByteArray), (⟨0, 0, (⟨#[]⟩ : ByteArray), ([] : List (S34))⟩ : S34)⟩ : S40) [.int .i64 0, .string (⟨#[98]⟩ : ByteArray), .int .i64 0, .int .i64 0, .string (⟨#[]⟩ : ByteArray), .slice none 0 0] from (k40_mkF _ _ (⟨0, (⟨#[98]⟩ : ByteArray), (⟨0, 0, (⟨#[]⟩ : ByteArray), ([] : List (S34))⟩ : S34)⟩ : S40) (Nat.le_refl _) (Kd.F_nil _ _ _))) (Reps.c6 (show Kd.FK k40 _ _ (⟨9, (⟨#[]⟩ : ByteArray), (⟨0, 0, (⟨#[]⟩ : ByteArray), ([] : List (S34))⟩ : S34)⟩ : S40) [.int .i64 9, .string (⟨#[]⟩ : ByteArray), .int .i64 0, .int .i64 0, .string (⟨#[]⟩ : ByteArray), .slice none 0 0] from (k40_mkF _ _ (⟨9, (⟨#[]⟩ : ByteArray), (⟨0, 0, (⟨#[]⟩ : ByteArray), ([] : List (S34))⟩ : S34)⟩ : S40) (Nat.le_refl _) (Kd.F_nil _ _ _))) (Reps.none _ _)))); intro v113 w19 ho20 hb hg_ hnew_; clear hg_ hnew_; (first | rw [← Ny112.out] at ho20 | (simp only [Int.reduceToNat] at ho20; rw [← Ny112.out] at ho20)); have n0_ := Aside0.mk (Kd.N_elder' (by (with_reducible repeat (first | apply Kd.N_alloc | apply Kd.N_drewN | apply Kd.N_drew)); exact HO111.out) (Kd.N_base ho20) hb); have n1_ := Aside0.mk (Kd.N_lower ho20 (below_size (by repeat (first | (with_reducible first | exact HB.out | apply below_alloc | apply pw_below_drewN | apply below_drew1) | exact HB.out)))); have n2_ := Aside0.mk (below_step (by repeat (first | (with_reducible first | exact HB.out | apply below_alloc | apply pw_below_drewN | apply below_drew1) | exact HB.out)) hb); clear HO111; clear HB; have HO111 := n0_; have HO114 := n1_; have HB := n2_; clear n0_ n1_ n2_; clear hb ho20; obtain ⟨Ao21, co21, eo21⟩ := Kd.N_slice HO114.out; subst eo21) | ((with_reducible refine gate_dst (N := 14) rfl ?_); (try (refine gate_guard (by rfl) ?_; dsimp only)); refine Kd.N_lit k43 _ 43 ?hg (N' := 14) ?hd (xs := ([(⟨3, (⟨#[104, 101, 97, 116]⟩ : ByteArray), y109⟩ : S43), (⟨0, (⟨#[98]⟩ : ByteArray), y112⟩ : S43)] : List (S43))) (inner := [.int .i64 3, .string (⟨#[104, 101, 97, 116]⟩ : ByteArray), .slice Ao18 y109.length co18, .int .i64 0, .string (⟨#[98]⟩ : ByteArray), .slice Ao21 y112.length co21]) (ok := (fun _ => True)) (okp := (fun _ => True)) ?hr ?hp (fun _ hk => hk) ((show ∀ k_, w19.heap.size ≤ k_ → (fun _ => True) k_ from fun k_ hk => trivial) _ (Nat.le_refl _)) (Below.refl _ _) (Nat.le_refl _) (by simp) ?_; (case hd => rfl); (case hg => rfl); (case hr => first | (go_simp; done) | (go_simp; rfl)); (case hp => exact (Reps.c3 (show Kd.FK k43 _ _ (⟨3, (⟨#[104, 101, 97, 116]⟩ : ByteArray), y109⟩ : S43) [.int .i64 3, .string (⟨#[104, 101, 97, 116]⟩ : ByteArray), .slice Ao18 y109.length co18] from (k43_mkF _ _ (⟨3, (⟨#[104, 101, 97, 116]⟩ : ByteArray), y109⟩ : S43) (Kd.N_reads' (Kd.N_mono (ok' := (fun _ => True)) (HO111.out) (fun k_ hk => trivial))).2.1 (Kd.N_F (Kd.N_mono (ok' := (fun _ => True)) (HO111.out) (fun k_ hk => trivial))))) (Reps.c3 (show Kd.FK k43 _ _ (⟨0, (⟨#[98]⟩ : ByteArray), y112⟩ : S43) [.int .i64 0, .string (⟨#[98]⟩ : ByteArray), .slice Ao21 y112.length co21] from (k43_mkF _ _ (⟨0, (⟨#[98]⟩ : ByteArray), y112⟩ : S43) (Kd.N_reads' (Kd.N_mono (ok' := (fun _ => True)) (HO114.out) (fun k_ hk => trivial))).2.1 (Kd.N_F (Kd.N_mono (ok' := (fun _ => True)) (HO114.out) (fun k_ hk => trivial))))) (Reps.none _ _)))); intro v116 w22 ho23 hb hg_ hnew_; clear hg_ hnew_; (first | rw [← Ny115.out] at ho23 | (simp only [Int.reduceToNat] at ho23; rw [← Ny115.out] at ho23)); have n0_ := Aside0.mk (Kd.N_lower ho23 (below_size (by repeat (first | (with_reducible first | exact HB.out | apply below_alloc | apply pw_below_drewN | apply below_drew1) | exact HB.out)))); have n1_ := Aside0.mk (below_step (by repeat (first | (with_reducible first | exact HB.out | apply below_alloc | apply pw_below_drewN | apply below_drew1) | exact HB.out)) hb); clear HB; clear HO111; clear HO114; have HO117 := n0_; have HB := n1_; clear n0_ n1_; clear hb ho23) | ((with_reducible refine gate_dst (N := 17) rfl ?_); (try (refine gate_guard (by rfl) ?_; dsimp only)); refine Kd.R_lit Kd.bool _ 4 ?hg (N := 17) ?hd (xs := ([false] : List Bool)) (inner := [.bool false]) (ok := fun _ => True) (okp := fun _ => True) ?hr ?hp (fun _ hk => hk) trivial (Below.refl _ _) (Nat.le_refl _) (by simp) ?_; (case hd => rfl); (case hg => rfl); (case hr => first | (go_simp; done) | (go_simp; rfl)); (case hp => exact (Reps.one (show Kd.M Kd.bool _ _ _ false [.bool false] from rfl) (Reps.none _ _))); intro v119 w24 ho25 hb hg_ hnew_; clear hg_ hnew_; (first | rw [← Ny118.out] at ho25 | (simp only [Int.reduceToNat] at ho25; rw [← Ny118.out] at ho25)); have n0_ := Aside0.mk (Kd.N_elder' (by (with_reducible repeat (first | apply Kd.N_alloc | apply Kd.N_drewN | apply Kd.N_drew)); exact HO117.out) (Kd.R_base ho25) hb); have n1_ := Aside0.mk (Kd.R_lower ho25 (below_size (by repeat (first | (with_reducible first | exact HB.out | apply below_alloc | apply pw_below_drewN | apply below_drew1) | exact HB.out)))); have n2_ := Aside0.mk (below_step (by repeat (first | (with_reducible first | exact HB.out | apply below_alloc | apply pw_below_drewN | apply below_drew1) | exact HB.out)) hb); clear HO117; clear HB; have HO117 := n0_; have HO120 := n1_; have HB := n2_; clear n0_ n1_ n2_; clear hb ho25) | ((with_reducible refine gate_dst (N := 19) rfl ?_); (try (refine gate_guard (by rfl) ?_; dsimp only)); refine Kd.R_lit k69 _ 69 ?hg (N := 19) ?hd (xs := ([(⟨(⟨#[116]⟩ : ByteArray), 80⟩ : S69)] : List (S69))) (inner := [.string (⟨#[116]⟩ : ByteArray), .int .i64 80]) (ok := fun _ => True) (okp := fun _ => True) ?hr ?hp (fun _ hk => hk) trivial (Below.refl _ _) (Nat.le_refl _) (by simp) ?_; (case hd => rfl); (case hg => rfl); (case hr => first | (go_simp; done) | (go_simp; rfl)); (case hp => exact (Reps.c2 (show Kd.M k69 _ _ _ (⟨(⟨#[116]⟩ : ByteArray), 80⟩ : S69) [.string (⟨#[116]⟩ : ByteArray), .int .i64 80] from (k69_mkM _ _ _ (⟨(⟨#[116]⟩ : ByteArray), 80⟩ : S69) )) (Reps.none _ _))); intro v122 w26 ho27 hb hg_ hnew_; clear hg_ hnew_; (first | rw [← Ny121.out] at ho27 | (simp only [Int.reduceToNat] at ho27; rw [← Ny121.out] at ho27)); have n0_ := Aside0.mk (Kd.N_elder' (by (with_reducible repeat (first | apply Kd.N_alloc | apply Kd.N_drewN | apply Kd.N_drew)); exact HO117.out) (Kd.R_base ho27) hb); have n1_ := Aside0.mk (Kd.R_below (by (with_reducible repeat (first | apply Kd.R_alloc | apply Kd.R_drewN | apply Kd.R_drew)); exact HO120.out) hb); have n2_ := Aside0.mk (Kd.R_lower ho27 (below_size (by repeat (first | (with_reducible first | exact HB.out | apply below_alloc | apply pw_below_drewN | apply below_drew1) | exact HB.out)))); have n3_ := Aside0.mk (below_step (by repeat (first | (with_reducible first | exact HB.out | apply below_alloc | apply pw_below_drewN | apply below_drew1) | exact HB.out)) hb); clear HO117; clear HO120; clear HB; have HO117 := n0_; have HO120 := n1_; have HO123 := n2_; have HB := n3_; clear n0_ n1_ n2_ n3_; clear hb ho27; obtain ⟨Ao28, co28, eo28⟩ := Kd.N_slice HO117.out; subst eo28; obtain ⟨Ao29, co29, eo29⟩ := Kd.R_slice HO120.out; subst eo29; obtain ⟨Ao30, co30, eo30⟩ := Kd.R_slice HO123.out; subst eo30) | ((with_reducible refine gate_callee (f := 31) rfl ?_); refine goesL_ (some 20) rfl rfl Tryd.func31 (by kernel_rfl) rfl #[.slice Ao28 y115.length co28, .slice Ao29 y118.length co29, .slice Ao30 y121.length co30] rfl (by (try simp only [List.map_toArray, List.map_cons, List.map_nil]); first | done | rfl | (simp only [List.length_drop, List.length_take]; rfl)) ?_; (with_reducible refine (rung_Run.calls k _ _ y115 _ _ y118 _ _ y121 t124 t125 t126 _ ?side1 ?side2 ?side3 ?side4 ?side5 ?side6 A2.out (by first | exact HT0.out | exact UT.below HT0.out (by repeat (first | (with_reducible first | exact HB.out | apply below_alloc | apply pw_below_drewN | apply below_drew1) | exact HB.out)))).mono ?_); (case side1 => repeat (first | exact (Kd.N_reads' HO117.out).2.2 | (with_reducible refine Kd.C_alloc ?_ _) | (with_reducible refine Kd.C_drewN ?_ _) | (with_reducible refine Kd.C_drew ?_))); (case side2 => exact (Kd.N_reads' HO117.out).2.1); (case side3 => repeat (first | exact (Kd.R_reads' HO120.out).2.2 | (with_reducible refine Kd.C_alloc ?_ _) | (with_reducible refine Kd.C_drewN ?_ _) | (with_reducible refine Kd.C_drew ?_))); (case side4 => exact (Kd.R_reads' HO120.out).2.1); (case side5 => repeat (first | exact (Kd.R_reads' HO123.out).2.2 | (with_reducible refine Kd.C_alloc ?_ _) | (with_reducible refine Kd.C_drewN ?_ _) | (with_reducible refine Kd.C_drew ?_))); (case side6 => exact (Kd.R_reads' HO123.out).2.1); rintro e w31 ⟨v127, v129, v131, rfl, ho0, ho1, ho2, hb⟩; refine ⟨_, rfl, ?_⟩; have n0_ := Aside0.mk (Kd.N_mono (Kd.N_told (Kd.N_told (Kd.N_told (Kd.N_old (by (with_reducible repeat (first | apply Kd.N_alloc | apply Kd.N_drewN | apply Kd.N_drew)); exact HO117.out) hb) (Kd.R_base ho0)) (Kd.R_base ho1)) (Kd.R_base ho2)) (fun _ h_ => h_.1)); have n1_ := Aside0.mk (Kd.R_elder' (by (with_reducible repeat (first | apply Kd.R_alloc | apply Kd.R_drewN | apply Kd.R_drew)); exact HO120.out) (Kd.R_base ho0) hb); have n2_ := Aside0.mk (Kd.R_below (by (with_reducible repeat (first | apply Kd.R_alloc | apply Kd.R_drewN | apply Kd.R_drew)); exact HO123.out) hb); have n3_ := Aside0.mk (Kd.R_lower (Kd.R_new' ho0 (Kd.R_lt (by (with_reducible repeat (first | apply Kd.R_alloc | apply Kd.R_drewN | apply Kd.R_drew)); exact HO120.out))) (below_size (by repeat (first | (with_reducible first | exact HB.out | apply below_alloc | apply pw_below_drewN | apply below_drew1) | exact HB.out)))); have n4_ := Aside0.mk (Kd.R_lower ho1 (below_size (by repeat (first | (with_reducible first | exact HB.out | apply below_alloc | apply pw_below_drewN | apply below_drew1) | exact HB.out)))); have n5_ := Aside0.mk (Kd.R_lower ho2 (below_size (by repeat (first | (with_reducible first | exact HB.out | apply below_alloc | apply pw_below_drewN | apply below_drew1) | exact HB.out)))); have n6_ := Aside0.mk (below_step (by repeat (first | (with_reducible first | exact HB.out | apply below_alloc | apply pw_below_drewN | apply below_drew1) | exact HB.out)) hb); clear HO117; clear HO120; clear HO123; clear HB; have HO117 := n0_; have HO120 := n1_; have HO123 := n2_; have HO128 := n3_; have HO130 := n4_; have HO132 := n5_; have HB := n6_; clear n0_ n1_ n2_ n3_ n4_ n5_ n6_; (try clear hb); (try clear hb2); (try clear hk); (try clear hi); (try clear ho0); (try clear ho1); (try clear ho2)) | ((with_reducible refine gate_dst (N := 25) rfl ?_); (try (refine gate_guard (by rfl) ?_; dsimp only)); refine Kd.R_lit Kd.string _ 9 ?hg (N := 25) ?hd (xs := ([(⟨#[116]⟩ : ByteArray)] : List ByteArray)) (inner := [.string (⟨#[116]⟩ : ByteArray)]) (ok := fun _ => True) (okp := fun _ => True) ?hr ?hp (fun _ hk => hk) trivial (Below.refl _ _) (Nat.le_refl _) (by simp) ?_; (case hd => rfl); (case hg => rfl); (case hr => first | (go_simp; done) | (go_simp; rfl)); (case hp => exact (Reps.one (show Kd.M Kd.string _ _ _ (⟨#[116]⟩ : ByteArray) [.string (⟨#[116]⟩ : ByteArray)] from rfl) (Reps.none _ _))); intro v134 w32 ho33 hb hg_ hnew_; clear hg_ hnew_; (first | rw [← Ny133.out] at ho33 | (simp only [Int.reduceToNat] at ho33; rw [← Ny133.out] at ho33)); have n0_ := Aside0.mk (Kd.N_elder' (by (with_reducible repeat (first | apply Kd.N_alloc | apply Kd.N_drewN | apply Kd.N_drew)); exact HO117.out) (Kd.R_base ho33) hb); have n1_ := Aside0.mk (Kd.R_below (by (with_reducible repeat (first | apply Kd.R_alloc | apply Kd.R_drewN | apply Kd.R_drew)); exact HO120.out) hb); have n2_ := Aside0.mk (Kd.R_below (by (with_reducible repeat (first | apply Kd.R_alloc | apply Kd.R_drewN | apply Kd.R_drew)); exact HO123.out) hb); have n3_ := Aside0.mk (Kd.R_below (by (with_reducible repeat (first | apply Kd.R_alloc | apply Kd.R_drewN | apply Kd.R_drew)); exact HO128.out) hb); have n4_ := Aside0.mk (Kd.R_elder' (by (with_reducible repeat (first | apply Kd.R_alloc | apply Kd.R_drewN | apply Kd.R_drew)); exact HO130.out) (Kd.R_base ho33) hb); have n5_ := Aside0.mk (Kd.R_elder' (by (with_reducible repeat (first | apply Kd.R_alloc | apply Kd.R_drewN | apply Kd.R_drew)); exact HO132.out) (Kd.R_base ho33) hb); have n6_ := Aside0.mk (Kd.R_lower (Kd.R_new' (Kd.R_new' ho33 (Kd.R_lt (by (with_reducible repeat (first | apply Kd.R_alloc | apply Kd.R_drewN | apply Kd.R_drew)); exact HO130.out))) (Kd.R_lt (by (with_reducible repeat (first | apply Kd.R_alloc | apply Kd.R_drewN | apply Kd.R_drew)); exact HO132.out))) (below_size (by repeat (first | (with_reducible first | exact HB.out | apply below_alloc | apply pw_below_drewN | apply below_drew1) | exact HB.out)))); have n7_ := Aside0.mk (below_step (by repeat (first | (with_reducible first | exact HB.out | apply below_alloc | apply pw_below_drewN | apply below_drew1) | exact HB.out)) hb); clear HO117; clear HO120; clear HO123; clear HO128; clear HO130; clear HO132; clear HB; have HO117 := n0_; have HO120 := n1_; have HO123 := n2_; have HO128 := n3_; have HO130 := n4_; have HO132 := n5_; have HO135 := n6_; have HB := n7_; clear n0_ n1_ n2_ n3_ n4_ n5_ n6_ n7_; clear hb ho33) | ((with_reducible refine gate_dst (N := 26) rfl ?_); (try (refine gate_guard (by rfl) ?_; dsimp only)); refine Kd.R_lit Kd.string _ 9 ?hg (N := 26) ?hd (xs := ([(⟨#[104, 101, 97, 116]⟩ : ByteArray)] : List ByteArray)) (inner := [.string (⟨#[104, 101, 97, 116]⟩ : ByteArray)]) (ok := fun _ => True) (okp := fun _ => True) ?hr ?hp (fun _ hk => hk) trivial (Below.refl _ _) (Nat.le_refl _) (by simp) ?_; (case hd => rfl); (case hg => rfl); (case hr => first | (go_simp; done) | (go_simp; rfl)); (case hp => exact (Reps.one (show Kd.M Kd.string _ _ _ (⟨#[104, 101, 97, 116]⟩ : ByteArray) [.string (⟨#[104, 101, 97, 116]⟩ : ByteArray)] from rfl) (Reps.none _ _))); intro v137 w34 ho35 hb hg_ hnew_; clear hg_ hnew_; (first | rw [← Ny136.out] at ho35 | (simp only [Int.reduceToNat] at ho35; rw [← Ny136.out] at ho35)); have n0_ := Aside0.mk (Kd.N_elder' (by (with_reducible repeat (first | apply Kd.N_alloc | apply Kd.N_drewN | apply Kd.N_drew)); exact HO117.out) (Kd.R_base ho35) hb); have n1_ := Aside0.mk (Kd.R_below (by (with_reducible repeat (first | apply Kd.R_alloc | apply Kd.R_drewN | apply Kd.R_drew)); exact HO120.out) hb); have n2_ := Aside0.mk (Kd.R_below (by (with_reducible repeat (first | apply Kd.R_alloc | apply Kd.R_drewN | apply Kd.R_drew)); exact HO123.out) hb); have n3_ := Aside0.mk (Kd.R_below (by (with_reducible repeat (first | apply Kd.R_alloc | apply Kd.R_drewN | apply Kd.R_drew)); exact HO128.out) hb); have n4_ := Aside0.mk (Kd.R_elder' (by (with_reducible repeat (first | apply Kd.R_alloc | apply Kd.R_drewN | apply Kd.R_drew)); exact HO130.out) (Kd.R_base ho35) hb); have n5_ := Aside0.mk (Kd.R_elder' (by (with_reducible repeat (first | apply Kd.R_alloc | apply Kd.R_drewN | apply Kd.R_drew)); exact HO132.out) (Kd.R_base ho35) hb); have n6_ := Aside0.mk (Kd.R_elder' (by (with_reducible repeat (first | apply Kd.R_alloc | apply Kd.R_drewN | apply Kd.R_drew)); exact HO135.out) (Kd.R_base ho35) hb); have n7_ := Aside0.mk (Kd.R_lower (Kd.R_new' (Kd.R_new' (Kd.R_new' ho35 (Kd.R_lt (by (with_reducible repeat (first | apply Kd.R_alloc | apply Kd.R_drewN | apply Kd.R_drew)); exact HO130.out))) (Kd.R_lt (by (with_reducible repeat (first | apply Kd.R_alloc | apply Kd.R_drewN | apply Kd.R_drew)); exact HO132.out))) (Kd.R_lt (by (with_reducible repeat (first | apply Kd.R_alloc | apply Kd.R_drewN | apply Kd.R_drew)); exact HO135.out))) (below_size (by repeat (first | (with_reducible first | exact HB.out | apply below_alloc | apply pw_below_drewN | apply below_drew1) | exact HB.out)))); have n8_ := Aside0.mk (below_step (by repeat (first | (with_reducible first | exact HB.out | apply below_alloc | apply pw_below_drewN | apply below_drew1) | exact HB.out)) hb); clear HO117; clear HO120; clear HO123; clear HO128; clear HO130; clear HO132; clear HO135; clear HB; have HO117 := n0_; have HO120 := n1_; have HO123 := n2_; have HO128 := n3_; have HO130 := n4_; have HO132 := n5_; have HO135 := n6_; have HO138 := n7_; have HB := n8_; clear n0_ n1_ n2_ n3_ n4_ n5_ n6_ n7_ n8_; clear hb ho35; obtain ⟨Ao36, co36, eo36⟩ := Kd.R_slice HO135.out; subst eo36; obtain ⟨Ao37, co37, eo37⟩ := Kd.R_slice HO138.out; subst eo37) | ((with_reducible refine gate_callee (f := 25) rfl ?_); refine goesL_ (some 27) rfl rfl Tryd.func25 (by kernel_rfl) rfl #[.slice Ao28 y115.length co28, .slice Ao36 y133.length co36, .slice Ao37 y136.length co37] rfl (by (try simp only [List.map_toArray, List.map_cons, List.map_nil]); first | done | rfl | (simp only [List.length_drop, List.length_take]; rfl)) ?_; (with_reducible refine (rung_Check.calls k _ _ y115 _ _ y133 _ _ y136 t139 _ ?side1 ?side2 ?side3 ?side4 ?side5 ?side6 A3.out (by first | exact HT0.out | exact UT.below HT0.out (by repeat (first | (with_reducible first | exact HB.out | apply below_alloc | apply pw_below_drewN | apply below_drew1) | exact HB.out)))).mono ?_); (case side1 => repeat (first | exact (Kd.N_reads' HO117.out).2.2 | (with_reducible refine Kd.C_alloc ?_ _) | (with_reducible refine Kd.C_drewN ?_ _) | (with_reducible refine Kd.C_drew ?_))); (case side2 => exact (Kd.N_reads' HO117.out).2.1); (case side3 => repeat (first | exact (Kd.R_reads' HO135.out).2.2 | (with_reducible refine Kd.C_alloc ?_ _) | (with_reducible refine Kd.C_drewN ?_ _) | (with_reducible refine Kd.C_drew ?_))); (case side4 => exact (Kd.R_reads' HO135.out).2.1); (case side5 => repeat (first | exact (Kd.R_reads' HO138.out).2.2 | (with_reducible refine Kd.C_alloc ?_ _) | (with_reducible refine Kd.C_drewN ?_ _) | (with_reducible refine Kd.C_drew ?_))); (case side6 => exact (Kd.R_reads' HO138.out).2.1); rintro e w38 ⟨rfl, hb⟩; refine ⟨_, rfl, ?_⟩; have n0_ := Aside0.mk (Kd.N_below (by (with_reducible repeat (first | apply Kd.N_alloc | apply Kd.N_drewN | apply Kd.N_drew)); exact HO117.out) hb); have n1_ := Aside0.mk (Kd.R_below (by (with_reducible repeat (first | apply Kd.R_alloc | apply Kd.R_drewN | apply Kd.R_drew)); exact HO120.out) hb); have n2_ := Aside0.mk (Kd.R_below (by (with_reducible repeat (first | apply Kd.R_alloc | apply Kd.R_drewN | apply Kd.R_drew)); exact HO123.out) hb); have n3_ := Aside0.mk (Kd.R_below (by (with_reducible repeat (first | apply Kd.R_alloc | apply Kd.R_drewN | apply Kd.R_drew)); exact HO128.out) hb); have n4_ := Aside0.mk (Kd.R_below (by (with_reducible repeat (first | apply Kd.R_alloc | apply Kd.R_drewN | apply Kd.R_drew)); exact HO130.out) hb); have n5_ := Aside0.mk (Kd.R_below (by (with_reducible repeat (first | apply Kd.R_alloc | apply Kd.R_drewN | apply Kd.R_drew)); exact HO132.out) hb); have n6_ := Aside0.mk (Kd.R_below (by (with_reducible repeat (first | apply Kd.R_alloc | apply Kd.R_drewN | apply Kd.R_drew)); exact HO135.out) hb); have n7_ := Aside0.mk (Kd.R_below (by (with_reducible repeat (first | apply Kd.R_alloc | apply Kd.R_drewN | apply Kd.R_drew)); exact HO138.out) hb); have n8_ := Aside0.mk (below_step (by repeat (first | (with_reducible first | exact HB.out | apply below_alloc | apply pw_below_drewN | apply below_drew1) | exact HB.out)) hb); clear HO117; clear HO120; clear HO123; clear HO128; clear HO130; clear HO132; clear HO135; clear HO138; clear HB; have HO117 := n0_; have HO120 := n1_; have HO123 := n2_; have HO128 := n3_; have HO130 := n4_; have HO132 := n5_; have HO135 := n6_; have HO138 := n7_; have HB := n8_; clear n0_ n1_ n2_ n3_ n4_ n5_ n6_ n7_ n8_; (try clear hb); (try clear hb2); (try clear hk); (try clear hi)) | ((with_reducible refine gate_dst (N := 29) rfl ?_); (try (refine gate_guard (by rfl) ?_; dsimp only)); refine Kd.R_lit Kd.string _ 9 ?hg (N := 29) ?hd (xs := ([(⟨#[116]⟩ : ByteArray)] : List ByteArray)) (inner := [.string (⟨#[116]⟩ : ByteArray)]) (ok := fun _ => True) (okp := fun _ => True) ?hr ?hp (fun _ hk => hk) trivial (Below.refl _ _) (Nat.le_refl _) (by simp) ?_; (case hd => rfl); (case hg => rfl); (case hr => first | (go_simp; done) | (go_simp; rfl)); (case hp => exact (Reps.one (show Kd.M Kd.string _ _ _ (⟨#[116]⟩ : ByteArray) [.string (⟨#[116]⟩ : ByteArray)] from rfl) (Reps.none _ _))); intro v141 w39 ho40 hb hg_ hnew_; clear hg_ hnew_; (first | rw [← Ny140.out] at ho40 | (simp only [Int.reduceToNat] at ho40; rw [← Ny140.out] at ho40)); have n0_ := Aside0.mk (Kd.N_elder' (by (with_reducible repeat (first | apply Kd.N_alloc | apply Kd.N_drewN | apply Kd.N_drew)); exact HO117.out) (Kd.R_base ho40) hb); have n1_ := Aside0.mk (Kd.R_below (by (with_reducible repeat (first | apply Kd.R_alloc | apply Kd.R_drewN | apply Kd.R_drew)); exact HO120.out) hb); have n2_ := Aside0.mk (Kd.R_below (by (with_reducible repeat (first | apply Kd.R_alloc | apply Kd.R_drewN | apply Kd.R_drew)); exact HO123.out) hb); have n3_ := Aside0.mk (Kd.R_below (by (with_reducible repeat (first | apply Kd.R_alloc | apply Kd.R_drewN | apply Kd.R_drew)); exact HO128.out) hb); have n4_ := Aside0.mk (Kd.R_elder' (by (with_reducible repeat (first | apply Kd.R_alloc | apply Kd.R_drewN | apply Kd.R_drew)); exact HO130.out) (Kd.R_base ho40) hb); have n5_ := Aside0.mk (Kd.R_elder' (by (with_reducible repeat (first | apply Kd.R_alloc | apply Kd.R_drewN | apply Kd.R_drew)); exact HO132.out) (Kd.R_base ho40) hb); have n6_ := Aside0.mk (Kd.R_elder' (by (with_reducible repeat (first | apply Kd.R_alloc | apply Kd.R_drewN | apply Kd.R_drew)); exact HO135.out) (Kd.R_base ho40) hb); have n7_ := Aside0.mk (Kd.R_elder' (by (with_reducible repeat (first | apply Kd.R_alloc | apply Kd.R_drewN | apply Kd.R_drew)); exact HO138.out) (Kd.R_base ho40) hb); have n8_ := Aside0.mk (Kd.R_lower (Kd.R_new' (Kd.R_new' (Kd.R_new' (Kd.R_new' ho40 (Kd.R_lt (by (with_reducible repeat (first | apply Kd.R_alloc | apply Kd.R_drewN | apply Kd.R_drew)); exact HO130.out))) (Kd.R_lt (by (with_reducible repeat (first | apply Kd.R_alloc | apply Kd.R_drewN | apply Kd.R_drew)); exact HO132.out))) (Kd.R_lt (by (with_reducible repeat (first | apply Kd.R_alloc | apply Kd.R_drewN | apply Kd.R_drew)); exact HO135.out))) (Kd.R_lt (by (with_reducible repeat (first | apply Kd.R_alloc | apply Kd.R_drewN | apply Kd.R_drew)); exact HO138.out))) (below_size (by repeat (first | (with_reducible first | exact HB.out | apply below_alloc | apply pw_below_drewN | apply below_drew1) | exact HB.out)))); have n9_ := Aside0.mk (below_step (by repeat (first | (with_reducible first | exact HB.out | apply below_alloc | apply pw_below_drewN | apply below_drew1) | exact HB.out)) hb); clear HO117; clear HO120; clear HO123; clear HO128; clear HO130; clear HO132; clear HO135; clear HO138; clear HB; have HO117 := n0_; have HO120 := n1_; have HO123 := n2_; have HO128 := n3_; have HO130 := n4_; have HO132 := n5_; have HO135 := n6_; have HO138 := n7_; have HO142 := n8_; have HB := n9_; clear n0_ n1_ n2_ n3_ n4_ n5_ n6_ n7_ n8_ n9_; clear hb ho40; obtain ⟨Ao41, co41, eo41⟩ := Kd.R_slice HO142.out; subst eo41) | ((with_reducible refine gate_callee (f := 25) rfl ?_); refine goesL_ (some 30) rfl rfl Tryd.func25 (by kernel_rfl) rfl #[.slice Ao28 y115.length co28, .slice Ao41 y140.length co41, .slice none 0 0] rfl (by (try simp only [List.map_toArray, List.map_cons, List.map_nil]); first | done | rfl | (simp only [List.length_drop, List.length_take]; rfl)) ?_; (refine (rung_Check.calls k _ _ y115 _ _ y140 _ _ ([] : List ByteArray) t143 _ ?side1 ?side2 ?side3 ?side4 ?side5 ?side6 A4.out (by first | exact HT0.out | exact UT.below HT0.out (by repeat (first | (with_reducible first | exact HB.out | apply below_alloc | apply pw_below_drewN | apply below_drew1) | exact HB.out)))).mono ?_); (case side1 => repeat (first | exact (Kd.N_reads' HO117.out).2.2 | (with_reducible refine Kd.C_alloc ?_ _) | (with_reducible refine Kd.C_drewN ?_ _) | (with_reducible refine Kd.C_drew ?_))); (case side2 => exact (Kd.N_reads' HO117.out).2.1); (case side3 => repeat (first | exact (Kd.R_reads' HO142.out).2.2 | (with_reducible refine Kd.C_alloc ?_ _) | (with_reducible refine Kd.C_drewN ?_ _) | (with_reducible refine Kd.C_drew ?_))); (case side4 => exact (Kd.R_reads' HO142.out).2.1); (case side5 => exact Kd.C_nil _ _); (case side6 => exact Nat.le_refl _); rintro e w42 ⟨rfl, hb⟩; refine ⟨_, rfl, ?_⟩; have n0_ := Aside0.mk (Kd.N_below (by (with_reducible repeat (first | apply Kd.N_alloc | apply Kd.N_drewN | apply Kd.N_drew)); exact HO117.out) hb); have n1_ := Aside0.mk (Kd.R_below (by (with_reducible repeat (first | apply Kd.R_alloc | apply Kd.R_drewN | apply Kd.R_drew)); exact HO120.out) hb); have n2_ := Aside0.mk (Kd.R_below (by (with_reducible repeat (first | apply Kd.R_alloc | apply Kd.R_drewN | apply Kd.R_drew)); exact HO123.out) hb); have n3_ := Aside0.mk (Kd.R_below (by (with_reducible repeat (first | apply Kd.R_alloc | apply Kd.R_drewN | apply Kd.R_drew)); exact HO128.out) hb); have n4_ := Aside0.mk (Kd.R_below (by (with_reducible repeat (first | apply Kd.R_alloc | apply Kd.R_drewN | apply Kd.R_drew)); exact HO130.out) hb); have n5_ := Aside0.mk (Kd.R_below (by (with_reducible repeat (first | apply Kd.R_alloc | apply Kd.R_drewN | apply Kd.R_drew)); exact HO132.out) hb); have n6_ := Aside0.mk (Kd.R_below (by (with_reducible repeat (first | apply Kd.R_alloc | apply Kd.R_drewN | apply Kd.R_drew)); exact HO135.out) hb); have n7_ := Aside0.mk (Kd.R_below (by (with_reducible repeat (first | apply Kd.R_alloc | apply Kd.R_drewN | apply Kd.R_drew)); exact HO138.out) hb); have n8_ := Aside0.mk (Kd.R_below (by (with_reducible repeat (first | apply Kd.R_alloc | apply Kd.R_drewN | apply Kd.R_drew)); exact HO142.out) hb); have n9_ := Aside0.mk (below_step (by repeat (first | (with_reducible first | exact HB.out | apply below_alloc | apply pw_below_drewN | apply below_drew1) | exact HB.out)) hb); clear HO117; clear HO120; clear HO123; clear HO128; clear HO130; clear HO132; clear HO135; clear HO138; clear HO142; clear HB; have HO117 := n0_; have HO120 := n1_; have HO123 := n2_; have HO128 := n3_; have HO130 := n4_; have HO132 := n5_; have HO135 := n6_; have HO138 := n7_; have HO142 := n8_; have HB := n9_; clear n0_ n1_ n2_ n3_ n4_ n5_ n6_ n7_ n8_ n9_; (try clear hb); (try clear hb2); (try clear hk); (try clear hi); obtain ⟨Ao43, co43, eo43⟩ := Kd.R_slice HO128.out; subst eo43; have p144 : 0 ≤ (0 : Int) := (by omega); have q144 : 0 < (t124.length : Int) := of_decide_eq_true (by first | (with_reducible assumption) | assumption); obtain ⟨ad144, e144, hx144_0⟩ := Kd.at_bool (Kd.R_reads' HO128.out).2.2 0 p144 q144; (try rw [← Nbq9.out] at hx144_0); cases e144; have qi144 : (0 < t124.length) = True := eq_true (by omega); (try rw [show ((0 : Int)).toNat = 0 from rfl] at hx144_0); (try rw [Addr.add_zero'] at hx144_0); replace p144 := eq_true p144; replace q144 := eq_true q144; obtain ⟨Ao44, co44, eo44⟩ := Kd.R_slice HO130.out; subst eo44; have p145 : 0 ≤ (0 : Int) := (by omega); have q145 : 0 < (t125.length : Int) := of_decide_eq_true (by first | (with_reducible assumption) | assumption); obtain ⟨ad145, e145, hx145_0⟩ := Kd.at_string (Kd.R_reads' HO130.out).2.2 0 p145 q145; cases e145; have qi145 : (0 < t125.length) = True := eq_true (by omega); (try rw [show ((0 : Int)).toNat = 0 from rfl] at hx145_0); (try rw [Addr.add_zero'] at hx145_0); replace p145 := eq_true p145; replace q145 := eq_true q145; obtain ⟨Ao45, co45, eo45⟩ := Kd.R_slice HO132.out; subst eo45))
         go_ret
         exact ⟨by first | rfl | (simp [errW_none, errW_some] <;> rfl) | (simp [*, errW_none, errW_some] <;> rfl), by repeat (first | (with_reducible first | exact HB.out | apply below_alloc | apply pw_below_drewN | apply below_drew1) | exact HB.out)⟩
        ·rw [if_neg c13] at H
         have c13b0 : ((rdOf ByteArray.empty t125 0).toList == ([104, 101, 97, 116] : List UInt8)) = false := beq_eq_false_iff_ne.mpr c13
         have c13b1 : ((rdOf ByteArray.empty t125 0).toList != ([104, 101, 97, 116] : List UInt8)) = true := bne_iff_ne.mpr c13
         exact absurd ((Option.some.inj H).trans HRT.out) (by decide)
       ·rw [if_neg c12] at H
        exact absurd H (by simp)
      ·rw [if_neg c11] at H
       have c11b0 : ((t125.length : Int) == 1) = false := beq_eq_false_iff_ne.mpr c11
       have c11b1 : ((t125.length : Int) != 1) = true := bne_iff_ne.mpr c11
       exact absurd ((Option.some.inj H).trans HRT.out) (by decide)
     ·replace c10 := Bool.eq_false_iff.mpr c10
      subst c10
      have H1 : (some false) = some r := by rw [if_neg (show ¬ (false = true) by decide)] at H; exact H
      clear H
      have H := H1
      clear H1
      exact absurd ((Option.some.inj H).trans HRT.out) (by decide)
    ·rw [if_neg c8] at H
     exact absurd H (by simp)
   ·rw [if_neg c7] at H
    have c7b0 : ((t124.length : Int) == 1) = false := beq_eq_false_iff_ne.mpr c7
    have c7b1 : ((t124.length : Int) != 1) = true := bne_iff_ne.mpr c7
    exact absurd ((Option.some.inj H).trans HRT.out) (by decide)
  ·rw [if_neg c6] at H
   have c6b0 : (t143 == 21) = false := beq_eq_false_iff_ne.mpr c6
   have c6b1 : (t143 != 21) = true := bne_iff_ne.mpr c6
   exact absurd ((Option.some.inj H).trans HRT.out) (by decide)
 ·rw [if_neg c5] at H
  have c5b0 : (t139 == 0) = false := beq_eq_false_iff_ne.mpr c5
  have c5b1 : (t139 != 0) = true := bne_iff_ne.mpr c5
  exact absurd ((Option.some.inj H).trans HRT.out) (by decide)
theorem malthouselaw09_awake_r {k : Nat} {r : Bool} (h : malthouselaw09_awake.f k = some r) : r = true := by
  have h0 : malthouselaw09_awake.f 40 = some true := by decide +kernel
  have up : ∀ n a b, malthouselaw09_awake.f a = some b → malthouselaw09_awake.f (a + n) = some b := fun n => by
    induction n with
    | zero => exact fun a b h => h
    | succ n ih => exact fun a b h => malthouselaw09_awake.mono _ _ (ih a b h)
  have h1 := up 40 k r h
  have h2 := up k 40 true h0
  rw [Nat.add_comm] at h2
  rw [h1] at h2
  exact Option.some.inj h2
end Go.Proofs.YtiaccdaeomaogaaDoor.F
