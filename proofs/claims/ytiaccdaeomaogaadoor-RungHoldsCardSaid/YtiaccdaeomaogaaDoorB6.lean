/- Texts of one claim, slimmed and merged by slim.py. -/
import Derived.Lib.LazyBuf
import Derived.OwnWalk
import Derived.Deep.Slices
import Derived.Deep.Grids
import Derived.WalkKit
import Derived.ProofKit
import Derived.OpenShut
import Derived.ShutString
import Derived.ChangeOld
import Derived.Below
import Derived.SizedLaws
import Derived.Test.YtiaccdaeomaogaaDoorB2
import Derived.Test.YtiaccdaeomaogaaDoorB3
import Derived.Test.YtiaccdaeomaogaaDoorB4
import Derived.Test.YtiaccdaeomaogaaDoorB5
namespace Go.Proofs.YtiaccdaeomaogaaDoor.F
open Go.RowKit Go.Proofs.YtiaccdaeomaogaaDoorW.PrintWords Go.Proofs.YtiaccdaeomaogaaDoorW.PrintLast Go.Proofs.YtiaccdaeomaogaaDoorW.PrintMore
attribute [local go_sem] max2_int min2_int max_two min_two max_three min_three max_four min_four   -- for this text's walks alone
set_option linter.unusedVariables false
set_option linter.unusedSimpArgs false
theorem info4c : (Tryd.prog.info? 4).map (fun i => (i.zero, i.size, i.bytes)) = some (some (.bool false), 1, 1) := by kernel_rfl
def slices_Clone_bool_bool.f (l0 : List Bool) : Option (List Bool) := if l0.length < 1000000000 then some l0 else none
set_option maxHeartbeats 4000000 in
set_option maxRecDepth 100000 in
theorem slices_Clone_bool_bool.calls (A0 : Option Addr) (c0 : Nat) (l0 : List Bool) (r : List Bool) (w : World) (hr0 : Kd.C Kd.bool w A0 l0.length l0) (hc0 : l0.length ≤ c0) (h : slices_Clone_bool_bool.f l0 = some r) :
    Calls Tryd.prog 65 #[.slice A0 l0.length c0] w fun e w' => ∃ v0_ : Value, e = .returned (v0_) ∧ Kd.R Kd.bool 4 w' w.heap.size (fun _ => True) v0_ r ∧ Below w.heap.size w w' := by
  unfold slices_Clone_bool_bool.f at h
  by_cases hl : l0.length < 1000000000
  case neg => rw [if_neg hl] at h; cases h
  rw [if_pos hl] at h
  obtain rfl := Option.some.inj h
  have heq := fun (w' : World) => Go.run_eql_slice_nil (P := Tryd.prog) w' 46 4 A0 l0.length c0 Tryd.underlying46
  cases A0 with
  | none =>
    have h0 : l0 = [] := by
      rcases Nat.eq_zero_or_pos l0.length with h | h
      · exact List.eq_nil_of_length_eq_zero h
      · obtain ⟨ad, e, _⟩ := hr0.2.2 h; cases e
    subst h0
    simp only [List.length_nil] at heq
    clear hr0 hl hc0 h
    go_enter Tryd.func65, Tryd.ntmps65
    go_wp2
    go_ret
    exact ⟨_, rfl, Kd.R_nil _ _ _ _ _, by repeat (first | exact Below.refl _ _ | apply pw_below_drewN | apply below_drew1)⟩
  | some ad =>
    have HR := Aside0.mk hr0
    have HL := Aside0.mk hl
    clear hr0 hl hc0 h
    go_enter Tryd.func65, Tryd.ntmps65
    go_wp2_with (first | ((with_reducible refine gate_builtin (b := .append) (xs := #[.tmp 5, .tmp 6]) rfl ?_); at_builtin; refine Kd.R_append_row Value.bool false (h1 := fun _ => rfl) (w0 := w) w.heap.size rfl (.tmp 5) (.tmp 6) 46 4 (.bool false) 1 rfl Tryd.underlying46 info4c rfl (by decide) (.slice (some ⟨w.heap.size, 0, none⟩) 0 0) [] l0 (some ad) l0.length c0 (fun _ => True) rfl rfl (fun _ _ => trivial) (Kd.R_of_own (own_lit_of (enc := Value.bool) w w.heap.size 4 [] (Nat.le_refl _) (by simp)) (fun _ _ => trivial)) (Kd.C_alloc HR.out _) (below_alloc (Below.refl _ w) _) (below_size (below_alloc (Below.refl _ w) _)) (by have := HL.out; simp; omega) ?_; intro v1 w1 ho hb hg hat; have ho2 : Kd.R Kd.bool 4 w1 w.heap.size (fun _ => True) v1 l0 := (by have h9 := ho; rw [List.nil_append] at h9; exact h9); have HO1 := Aside0.mk ho2; have HB1 := Aside0.mk hb; clear ho ho2 hb hg hat))
    go_ret
    exact ⟨_, rfl, HO1.out, HB1.out⟩
end Go.Proofs.YtiaccdaeomaogaaDoor.F
namespace Go.Proofs.YtiaccdaeomaogaaDoor.F
open Go.RowKit Go.Proofs.YtiaccdaeomaogaaDoorW.PrintWords Go.Proofs.YtiaccdaeomaogaaDoorW.PrintLast Go.Proofs.YtiaccdaeomaogaaDoorW.PrintMore
set_option linter.unusedVariables false
set_option linter.unusedSimpArgs false
def idxF (k : Nat) (nm : List ByteArray) (bs : List Bool) (name : ByteArray) : Option Int := (slices_Index_string_string.f k nm name).bind fun i => if 0 ≤ i ∧ i < (bs.length : Int) then some i else none
theorem idxF_some {k : Nat} {nm : List ByteArray} {bs : List Bool} {name : ByteArray} {i : Int} (h : idxF k nm bs name = some i) : slices_Index_string_string.f k nm name = some i ∧ 0 ≤ i ∧ i < (bs.length : Int) := by
 unfold idxF at h
 obtain ⟨j, hj, h⟩ := Option.bind_eq_some_iff.mp h
 by_cases hc : 0 ≤ j ∧ j < (bs.length : Int)
 ·rw [if_pos hc] at h
  obtain rfl := Option.some.inj h
  exact ⟨hj, hc⟩
 ·rw [if_neg hc] at h; cases h
theorem idxF_mono (k : Nat) (nm : List ByteArray) (bs : List Bool) (name : ByteArray) : LeO (idxF k nm bs name) (idxF (k + 1) nm bs name) := LeO.bind (slices_Index_string_string.mono _ _ _) (fun _ => LeO.refl _)
def insF (k : Nat) (nm : List ByteArray) (bs : List Bool) (en : List S69) (x : S40) (st : List Bool) : Option (List Bool) :=
  if st.length < 1000000 then
    (if x.f0 = 0 then (idxF k nm bs x.f1).bind fun i => some (st ++ [rdOf false bs i])
    else if x.f0 = 1 then (idxF k nm bs x.f1).bind fun i => some (st ++ [!rdOf false bs i])
    else if x.f0 = 2 then (expr_Eval.f k x.f2.f0 x.f2.f1 x.f2.f2 x.f2.f3 en).bind fun p => some (st ++ [p.2 == 0 && !(p.1 == 0)])
    else if (st.length : Int) - 1 < 0 then none
    else if x.f0 = 3 then (if rdOf false st ((st.length : Int) - 1) = true then (idxF k nm bs x.f1).bind fun i => some (st.set ((st.length : Int) - 1).toNat (rdOf false bs i)) else some (st.set ((st.length : Int) - 1).toNat false))
    else if x.f0 = 4 then (if rdOf false st ((st.length : Int) - 1) = true then (idxF k nm bs x.f1).bind fun i => some (st.set ((st.length : Int) - 1).toNat (!rdOf false bs i)) else some (st.set ((st.length : Int) - 1).toNat false))
    else if x.f0 = 5 then (if rdOf false st ((st.length : Int) - 1) = true then some (st.set ((st.length : Int) - 1).toNat true) else (idxF k nm bs x.f1).bind fun i => some (st.set ((st.length : Int) - 1).toNat (rdOf false bs i)))
    else if x.f0 = 6 then (if rdOf false st ((st.length : Int) - 1) = true then some (st.set ((st.length : Int) - 1).toNat true) else (idxF k nm bs x.f1).bind fun i => some (st.set ((st.length : Int) - 1).toNat (!rdOf false bs i)))
    else if x.f0 = 9 then some (st.set ((st.length : Int) - 1).toNat (!rdOf false st ((st.length : Int) - 1)))
    else if (st.length : Int) - 1 < 1 then none
    else if x.f0 = 7 then some (st.take ((st.length : Int) - 1 - 1).toNat ++ [rdOf false st ((st.length : Int) - 1 - 1) && rdOf false st ((st.length : Int) - 1)])
    else if x.f0 = 8 then some (st.take ((st.length : Int) - 1 - 1).toNat ++ [rdOf false st ((st.length : Int) - 1 - 1) || rdOf false st ((st.length : Int) - 1)])
    else none)
  else none
theorem insF_mono (k : Nat) (nm : List ByteArray) (bs : List Bool) (en : List S69) (x : S40) (st : List Bool) : LeO (insF k nm bs en x st) (insF (k + 1) nm bs en x st) := by
  unfold insF
  repeat' first
    | exact LeO.refl _
    | exact idxF_mono _ _ _ _
    | exact expr_Eval.mono _ _ _ _ _ _
    | refine LeO.ite ?_ ?_
    | refine LeO.bind ?_ (fun _ => ?_)
theorem do_calls (k : Nat) (W w : World) (g : Nat) (nm : List ByteArray) (bs : List Bool) (en : List S69) (st : List Bool) (AN : Option Addr) (cN : Nat) (AB : Option Addr) (cB : Nat) (AE : Option Addr) (cE : Nat) (AS : Option Addr) (cS : Nat) (x : S40) (AX : Option Addr) (cX : Nat) (h : Mach W w g nm bs en st AN cN AB cB AE cE AS cS) (hks : Kd.C k34 W AX x.f2.f3.length x.f2.f3) (hkc : x.f2.f3.length ≤ cX) (hT : UT W) (st' : List Bool) (hi : insF k nm bs en x st = some st') :
  Calls Tryd.prog 67 #[.pointer (some ⟨g, 0, none⟩), .agg #[.int .i64 x.f0, .string x.f1, .int .i64 x.f2.f0, .int .i64 x.f2.f1, .string x.f2.f2, .slice AX x.f2.f3.length cX]] w (DoPost W w g nm bs en AN cN AB cB AE cE st') := by
 unfold insF at hi
 by_cases hl : st.length < 1000000
 case neg => rw [if_neg hl] at hi; cases hi
 rw [if_pos hl] at hi
 by_cases o0 : x.f0 = 0
 ·rw [if_pos o0] at hi
  obtain ⟨i, hx, hi⟩ := Option.bind_eq_some_iff.mp hi
  obtain ⟨h1, h2, h3⟩ := idxF_some hx
  obtain rfl := Option.some.inj hi
  rw [o0]
  exact do_ld0 W w g nm bs en st AN cN AB cB AE cE AS cS _ _ _ _ AX _ cX h k i h1 h2 h3 hl
 rw [if_neg o0] at hi
 by_cases o1 : x.f0 = 1
 ·rw [if_pos o1] at hi
  obtain ⟨i, hx, hi⟩ := Option.bind_eq_some_iff.mp hi
  obtain ⟨h1, h2, h3⟩ := idxF_some hx
  obtain rfl := Option.some.inj hi
  rw [o1]
  exact do_ld1 W w g nm bs en st AN cN AB cB AE cE AS cS _ _ _ _ AX _ cX h k i h1 h2 h3 hl
 rw [if_neg o1] at hi
 by_cases o2 : x.f0 = 2
 ·rw [if_pos o2] at hi
  obtain ⟨⟨n, f⟩, hx, hi⟩ := Option.bind_eq_some_iff.mp hi
  obtain rfl := Option.some.inj hi
  rw [o2]
  by_cases hf : f = 0
  ·subst hf
   by_cases hn : n = 0
   ·subst hn
    exact do_cmp_zero W w g nm bs en st AN cN AB cB AE cE AS cS _ _ _ _ AX _ cX h _ rfl hks hkc hT k hx hl
   ·have e : ((0 : Int) == 0 && !(n == 0)) = true := by simp [hn]
    rw [show ((n, (0 : Int)).2 == 0 && !((n, (0 : Int)).1 == 0)) = true from e]
    exact do_cmp_one W w g nm bs en st AN cN AB cB AE cE AS cS _ _ _ _ AX _ cX h _ rfl hks hkc hT k n hx hn hl
  ·have e : (f == 0 && !(n == 0)) = false := by simp [hf]
   rw [show ((n, f).2 == 0 && !((n, f).1 == 0)) = false from e]
   exact do_cmp_err W w g nm bs en st AN cN AB cB AE cE AS cS _ _ _ _ AX _ cX h _ rfl hks hkc hT k n f hx hf hl
 rw [if_neg o2] at hi
 by_cases hL : (st.length : Int) - 1 < 0
 ·rw [if_pos hL] at hi; cases hi
 rw [if_neg hL] at hi
 have h0 : 0 ≤ (st.length : Int) - 1 := by omega
 by_cases o3 : x.f0 = 3
 ·rw [if_pos o3] at hi
  rw [o3]
  by_cases ht : rdOf false st ((st.length : Int) - 1) = true
  ·rw [if_pos ht] at hi
   obtain ⟨i, hx, hi⟩ := Option.bind_eq_some_iff.mp hi
   obtain ⟨h1, h2, h3⟩ := idxF_some hx
   obtain rfl := Option.some.inj hi
   exact do_and3on W w g nm bs en st AN cN AB cB AE cE AS cS _ _ _ _ AX _ cX h _ rfl h0 ht k i h1 h2 h3
  ·rw [if_neg ht] at hi
   obtain rfl := Option.some.inj hi
   exact do_and3off W w g nm bs en st AN cN AB cB AE cE AS cS _ _ _ _ AX _ cX h _ rfl h0 (Bool.eq_false_iff.mpr ht)
 rw [if_neg o3] at hi
 by_cases o4 : x.f0 = 4
 ·rw [if_pos o4] at hi
  rw [o4]
  by_cases ht : rdOf false st ((st.length : Int) - 1) = true
  ·rw [if_pos ht] at hi
   obtain ⟨i, hx, hi⟩ := Option.bind_eq_some_iff.mp hi
   obtain ⟨h1, h2, h3⟩ := idxF_some hx
   obtain rfl := Option.some.inj hi
   exact do_and4on W w g nm bs en st AN cN AB cB AE cE AS cS _ _ _ _ AX _ cX h _ rfl h0 ht k i h1 h2 h3
  ·rw [if_neg ht] at hi
   obtain rfl := Option.some.inj hi
   exact do_and4off W w g nm bs en st AN cN AB cB AE cE AS cS _ _ _ _ AX _ cX h _ rfl h0 (Bool.eq_false_iff.mpr ht)
 rw [if_neg o4] at hi
 by_cases o5 : x.f0 = 5
 ·rw [if_pos o5] at hi
  rw [o5]
  by_cases ht : rdOf false st ((st.length : Int) - 1) = true
  ·rw [if_pos ht] at hi
   obtain rfl := Option.some.inj hi
   exact do_or5off W w g nm bs en st AN cN AB cB AE cE AS cS _ _ _ _ AX _ cX h _ rfl h0 ht
  ·rw [if_neg ht] at hi
   obtain ⟨i, hx, hi⟩ := Option.bind_eq_some_iff.mp hi
   obtain ⟨h1, h2, h3⟩ := idxF_some hx
   obtain rfl := Option.some.inj hi
   exact do_or5on W w g nm bs en st AN cN AB cB AE cE AS cS _ _ _ _ AX _ cX h _ rfl h0 (Bool.eq_false_iff.mpr ht) k i h1 h2 h3
 rw [if_neg o5] at hi
 by_cases o6 : x.f0 = 6
 ·rw [if_pos o6] at hi
  rw [o6]
  by_cases ht : rdOf false st ((st.length : Int) - 1) = true
  ·rw [if_pos ht] at hi
   obtain rfl := Option.some.inj hi
   exact do_or6off W w g nm bs en st AN cN AB cB AE cE AS cS _ _ _ _ AX _ cX h _ rfl h0 ht
  ·rw [if_neg ht] at hi
   obtain ⟨i, hx, hi⟩ := Option.bind_eq_some_iff.mp hi
   obtain ⟨h1, h2, h3⟩ := idxF_some hx
   obtain rfl := Option.some.inj hi
   exact do_or6on W w g nm bs en st AN cN AB cB AE cE AS cS _ _ _ _ AX _ cX h _ rfl h0 (Bool.eq_false_iff.mpr ht) k i h1 h2 h3
 rw [if_neg o6] at hi
 by_cases o9 : x.f0 = 9
 ·rw [if_pos o9] at hi
  obtain rfl := Option.some.inj hi
  rw [o9]
  exact do_not W w g nm bs en st AN cN AB cB AE cE AS cS _ _ _ _ AX _ cX h _ rfl h0
 rw [if_neg o9] at hi
 by_cases hL1 : (st.length : Int) - 1 < 1
 ·rw [if_pos hL1] at hi; cases hi
 rw [if_neg hL1] at hi
 have h1 : 1 ≤ (st.length : Int) - 1 := by omega
 by_cases o7 : x.f0 = 7
 ·rw [if_pos o7] at hi
  obtain rfl := Option.some.inj hi
  rw [o7]
  cases ht : rdOf false st ((st.length : Int) - 1 - 1) with
  | true => rw [Bool.true_and]; exact do_anbon W w g nm bs en st AN cN AB cB AE cE AS cS _ _ _ _ AX _ cX h _ rfl h1 ht hl
  | false => rw [Bool.false_and]; exact do_anboff W w g nm bs en st AN cN AB cB AE cE AS cS _ _ _ _ AX _ cX h _ rfl h1 ht hl
 rw [if_neg o7] at hi
 by_cases o8 : x.f0 = 8
 ·rw [if_pos o8] at hi
  obtain rfl := Option.some.inj hi
  rw [o8]
  cases ht : rdOf false st ((st.length : Int) - 1 - 1) with
  | true => rw [Bool.true_or]; exact do_orboff W w g nm bs en st AN cN AB cB AE cE AS cS _ _ _ _ AX _ cX h _ rfl h1 ht hl
  | false => rw [Bool.false_or]; exact do_orbon W w g nm bs en st AN cN AB cB AE cE AS cS _ _ _ _ AX _ cX h _ rfl h1 ht hl
 rw [if_neg o8] at hi
 cases hi
set_option maxHeartbeats 4000000 in
set_option maxRecDepth 100000 in
theorem check_lit (k g : Nat) (A : Option Addr) (c : Nat) (l : List ByteArray) (nm : ByteArray) (r : Bool) (w : World) (hb : w.heap[g]? = some (.cells #[.slice A l.length c] 23 (0, 0))) (hr : Kd.C Kd.string w A l.length l) (hc : l.length ≤ c) (h : slices_Contains_string_string.f k l nm = some r) :
    Calls Tryd.prog 60 #[.string nm, .pointer (some ⟨g, 0, none⟩)] w fun e w' => e = .returned (.bool r) ∧ Drawn0 w w' := by
  have HX := Aside0.mk (slices_Contains_string_string.calls k A c l nm r w hr hc h)
  have hcell : w.cell? ⟨g, 0, none⟩ = some (.slice A l.length c) := (blk_cell hb 0).trans rfl
  clear hr hc hb h
  go_enter Tryd.func60, Tryd.ntmps60
  go_wp2_with (first | (go_at_call 61; (with_reducible refine HX.out.mono ?_); rintro e w' ⟨rfl, ⟨nd, rfl⟩⟩))
  go_ret
  exact ⟨rfl, by repeat (first | exact Drawn0.refl _ | apply Drawn0.step)⟩
set_option maxHeartbeats 4000000 in
set_option maxRecDepth 100000 in
theorem all_lit (nm : ByteArray) (w : World) :
    Calls Tryd.prog 66 #[.string nm] w fun e w' => e = .returned (.bool true) ∧ Drawn0 w w' := by
  go_enter Tryd.func66, Tryd.ntmps66
  go_wp2
  go_ret
  exact ⟨rfl, by repeat (first | exact Drawn0.refl _ | apply Drawn0.step)⟩
end Go.Proofs.YtiaccdaeomaogaaDoor.F
namespace Go.Proofs.YtiaccdaeomaogaaDoor.F
open Go.RowKit Go.Proofs.YtiaccdaeomaogaaDoorW.PrintWords Go.Proofs.YtiaccdaeomaogaaDoorW.PrintLast Go.Proofs.YtiaccdaeomaogaaDoorW.PrintMore
attribute [local go_sem] max2_int min2_int max_two min_two max_three min_three max_four min_four   -- for this text's walks alone
set_option linter.unusedVariables false
set_option linter.unusedSimpArgs false
def rung_blank.f (a0_0 : Int) (a0_1 : Int) (a0_2 : ByteArray) (l0_3 : List (S34)) : Option (Bool) := if a0_0 = 0 then (if a0_1 = 0 then (if a0_2.toList = ([] : List UInt8) then (some ((l0_3.length : Int) == 0)) else (some false)) else (some false)) else (some false)
set_option maxHeartbeats 8000000 in
set_option maxRecDepth 100000 in
theorem rung_blank.calls (a0_0 : Int) (a0_1 : Int) (a0_2 : ByteArray) (A0_3 : Option Addr) (c0_3 : Nat) (l0_3 : List (S34)) (r : Bool) (w : World) (hr0_3 : Kd.C k34 w A0_3 l0_3.length l0_3) (hc0_3 : l0_3.length ≤ c0_3) (h : rung_blank.f a0_0 a0_1 a0_2 l0_3 = some r) :
  Calls Tryd.prog 122 #[.agg #[.int .i64 a0_0, .int .i64 a0_1, .string a0_2, .slice A0_3 l0_3.length c0_3]] w fun e w' => e = .returned (.bool r) ∧ Below w.heap.size w w' := by
 have hu34 := Tryd.underlying34
 have HR0_3 := Aside0.mk hr0_3
 have HC0_3 := Aside0.mk hc0_3
 clear hr0_3 hc0_3
 have HB := Aside0.mk (Below.refl w.heap.size w)
 have H : (if a0_0 = 0 then (if a0_1 = 0 then (if a0_2.toList = ([] : List UInt8) then (some ((l0_3.length : Int) == 0)) else (some false)) else (some false)) else (some false)) = some r := h
 clear h
 by_cases c2 : a0_0 = 0
 ·rw [if_pos c2] at H
  obtain ⟨c2b0, c2b1⟩ := qe c2
  clear c2
  by_cases c3 : a0_1 = 0
  ·rw [if_pos c3] at H
   obtain ⟨c3b0, c3b1⟩ := qe c3
   clear c3
   by_cases c4 : a0_2.toList = ([] : List UInt8)
   ·rw [if_pos c4] at H
    obtain ⟨c4b0, c4b1⟩ := qe c4
    clear c4
    obtain rfl := Option.some.inj H
    go_enter Tryd.func122, Tryd.ntmps122
    go_wp2_with (first | ((with_reducible refine gate_dst (N := 1) rfl ?_); (try (refine gate_guard (by rfl) ?_; dsimp only)); refine box_event ?hg (N := 1) ?hd (cs := #[.int .i64 a0_0, .int .i64 a0_1, .string a0_2, .slice A0_3 l0_3.length c0_3]) (t := 34) ?hr ?_; (case hd => rfl); (case hg => rfl); (case hr => first | (go_simp; done) | (go_simp; rfl)); intro gb101 hg w5 hbox hb; have n0_ := qs hb; have n1_ := Aside0.mk (hbox); have n2_ := Aside0.mk ((by rw [hg]; exact (below_size qb) : w.heap.size ≤ gb101)); have n3_ := Aside0.mk ((by rw [hg]; exact (below_size qb) : w.heap.size ≤ gb101)); clear HB; have HB := n0_; have BK101 := n1_; have GW101 := n2_; have GE101 := n3_; clear n0_ n1_ n2_ n3_; clear hb hbox hg; obtain ⟨_, _, _, _, _, _, _, _⟩ := q4 BK101.out))
    go_ret
    exact qr
   ·rw [if_neg c4] at H
    obtain ⟨c4b0, c4b1⟩ := qd c4
    obtain rfl := Option.some.inj H
    go_enter Tryd.func122, Tryd.ntmps122
    go_wp2_with (first | ((with_reducible refine gate_dst (N := 1) rfl ?_); (try (refine gate_guard (by rfl) ?_; dsimp only)); refine box_event ?hg (N := 1) ?hd (cs := #[.int .i64 a0_0, .int .i64 a0_1, .string a0_2, .slice A0_3 l0_3.length c0_3]) (t := 34) ?hr ?_; (case hd => rfl); (case hg => rfl); (case hr => first | (go_simp; done) | (go_simp; rfl)); intro gb101 hg w7 hbox hb; have n0_ := qs hb; have n1_ := Aside0.mk (hbox); have n2_ := Aside0.mk ((by rw [hg]; exact (below_size qb) : w.heap.size ≤ gb101)); have n3_ := Aside0.mk ((by rw [hg]; exact (below_size qb) : w.heap.size ≤ gb101)); clear HB; have HB := n0_; have BK101 := n1_; have GW101 := n2_; have GE101 := n3_; clear n0_ n1_ n2_ n3_; clear hb hbox hg; obtain ⟨_, _, _, _, _, _, _, _⟩ := q4 BK101.out))
    go_ret
    exact qr
  ·rw [if_neg c3] at H
   obtain ⟨c3b0, c3b1⟩ := qd c3
   obtain rfl := Option.some.inj H
   go_enter Tryd.func122, Tryd.ntmps122
   go_wp2_with (first | ((with_reducible refine gate_dst (N := 1) rfl ?_); (try (refine gate_guard (by rfl) ?_; dsimp only)); refine box_event ?hg (N := 1) ?hd (cs := #[.int .i64 a0_0, .int .i64 a0_1, .string a0_2, .slice A0_3 l0_3.length c0_3]) (t := 34) ?hr ?_; (case hd => rfl); (case hg => rfl); (case hr => first | (go_simp; done) | (go_simp; rfl)); intro gb101 hg w9 hbox hb; have n0_ := qs hb; have n1_ := Aside0.mk (hbox); have n2_ := Aside0.mk ((by rw [hg]; exact (below_size qb) : w.heap.size ≤ gb101)); have n3_ := Aside0.mk ((by rw [hg]; exact (below_size qb) : w.heap.size ≤ gb101)); clear HB; have HB := n0_; have BK101 := n1_; have GW101 := n2_; have GE101 := n3_; clear n0_ n1_ n2_ n3_; clear hb hbox hg; obtain ⟨_, _, _, _, _, _, _, _⟩ := q4 BK101.out))
   go_ret
   exact qr
 ·rw [if_neg c2] at H
  obtain ⟨c2b0, c2b1⟩ := qd c2
  obtain rfl := Option.some.inj H
  go_enter Tryd.func122, Tryd.ntmps122
  go_wp2_with (first | ((with_reducible refine gate_dst (N := 1) rfl ?_); (try (refine gate_guard (by rfl) ?_; dsimp only)); refine box_event ?hg (N := 1) ?hd (cs := #[.int .i64 a0_0, .int .i64 a0_1, .string a0_2, .slice A0_3 l0_3.length c0_3]) (t := 34) ?hr ?_; (case hd => rfl); (case hg => rfl); (case hr => first | (go_simp; done) | (go_simp; rfl)); intro gb101 hg w11 hbox hb; have n0_ := qs hb; have n1_ := Aside0.mk (hbox); have n2_ := Aside0.mk ((by rw [hg]; exact (below_size qb) : w.heap.size ≤ gb101)); have n3_ := Aside0.mk ((by rw [hg]; exact (below_size qb) : w.heap.size ≤ gb101)); clear HB; have HB := n0_; have BK101 := n1_; have GW101 := n2_; have GE101 := n3_; clear n0_ n1_ n2_ n3_; clear hb hbox hg; obtain ⟨_, _, _, _, _, _, _, _⟩ := q4 BK101.out))
  go_ret
  exact qr
mutual
def rung_named.j0 : Nat → Int → Bool → Option (Bool × Int × Int × Bool)
  | 0, _, _ => none
  | k + 1, x6, x7 => if x7 = true then (some (true, 0, 1, true)) else (if x6 = 2 then (some (false, 0, 1, true)) else (if x6 = 3 then (rung_named.j1 k x6 (x6 == 3)) else (if x6 = 4 then (rung_named.j1 k x6 (x6 == 4)) else (if x6 = 5 then (rung_named.j1 k x6 (x6 == 5)) else (rung_named.j1 k x6 (x6 == 6))))))
def rung_named.j1 : Nat → Int → Bool → Option (Bool × Int × Int × Bool)
  | 0, _, _ => none
  | k + 1, x6, x12 => if x12 = true then (some (true, 1, 1, true)) else (if x6 = 7 then (rung_named.j2 k x6 (x6 == 7)) else (rung_named.j2 k x6 (x6 == 8)))
def rung_named.j2 : Nat → Int → Bool → Option (Bool × Int × Int × Bool)
  | 0, _, _ => none
  | k + 1, x6, x17 => if x17 = true then (some (false, 2, 1, true)) else (if x6 = 9 then (some (false, 1, 1, true)) else (some (false, 0, 0, false)))
end
def rung_named.f (k : Nat) (a0 : Int) : Option (Bool × Int × Int × Bool) := if a0 = 0 then (rung_named.j0 k a0 (a0 == 0)) else (rung_named.j0 k a0 (a0 == 1))
theorem rung_named.mono_l : ∀ k, (∀ y0 y1, LeO (rung_named.j0 k y0 y1) (rung_named.j0 (k + 1) y0 y1)) ∧ (∀ y0 y1, LeO (rung_named.j1 k y0 y1) (rung_named.j1 (k + 1) y0 y1)) ∧ (∀ y0 y1, LeO (rung_named.j2 k y0 y1) (rung_named.j2 (k + 1) y0 y1))
  | 0 => ⟨fun _ _ r h => by simp [rung_named.j0] at h, fun _ _ r h => by simp [rung_named.j1] at h, fun _ _ r h => by simp [rung_named.j2] at h⟩
  | k + 1 => by
    obtain ⟨ih0, ih1, ih2⟩ := rung_named.mono_l k
    refine ⟨?_, ?_, ?_⟩
    · intro y0 y1
      unfold rung_named.j0
      repeat' first
      | (with_reducible exact ih0 _ _)
      | (with_reducible exact ih1 _ _)
      | (with_reducible exact ih2 _ _)
      | (with_reducible exact LeO.refl _)
      | (with_reducible exact LeO.none _)
      | (with_reducible refine LeO.ite ?_ ?_)
      | (with_reducible refine LeO.bind ?_ (fun _ => ?_))
      | exact ih0 _ _
      | exact ih1 _ _
      | exact ih2 _ _
      | exact LeO.none _
      | refine LeO.ite ?_ ?_
      | refine LeO.bind ?_ (fun _ => ?_)
    · intro y0 y1
      unfold rung_named.j1
      repeat' first
      | (with_reducible exact ih0 _ _)
      | (with_reducible exact ih1 _ _)
      | (with_reducible exact ih2 _ _)
      | (with_reducible exact LeO.refl _)
      | (with_reducible exact LeO.none _)
      | (with_reducible refine LeO.ite ?_ ?_)
      | (with_reducible refine LeO.bind ?_ (fun _ => ?_))
      | exact ih0 _ _
      | exact ih1 _ _
      | exact ih2 _ _
      | exact LeO.none _
      | refine LeO.ite ?_ ?_
      | refine LeO.bind ?_ (fun _ => ?_)
    · intro y0 y1
      unfold rung_named.j2
      repeat' first
      | (with_reducible exact ih0 _ _)
      | (with_reducible exact ih1 _ _)
      | (with_reducible exact ih2 _ _)
      | (with_reducible exact LeO.refl _)
      | (with_reducible exact LeO.none _)
      | (with_reducible refine LeO.ite ?_ ?_)
      | (with_reducible refine LeO.bind ?_ (fun _ => ?_))
      | exact ih0 _ _
      | exact ih1 _ _
      | exact ih2 _ _
      | exact LeO.none _
      | refine LeO.ite ?_ ?_
      | refine LeO.bind ?_ (fun _ => ?_)
theorem rung_named.mono : ∀ a0 k, LeO (rung_named.f k a0) (rung_named.f (k + 1) a0) := by
  intro a0 k
  obtain ⟨ih0, ih1, ih2⟩ := rung_named.mono_l k
  unfold rung_named.f
  repeat' first
      | (with_reducible exact ih0 _ _)
      | (with_reducible exact ih1 _ _)
      | (with_reducible exact ih2 _ _)
      | (with_reducible exact LeO.refl _)
      | (with_reducible exact LeO.none _)
      | (with_reducible refine LeO.ite ?_ ?_)
      | (with_reducible refine LeO.bind ?_ (fun _ => ?_))
      | exact ih0 _ _
      | exact ih1 _ _
      | exact ih2 _ _
      | exact LeO.none _
      | refine LeO.ite ?_ ?_
      | refine LeO.bind ?_ (fun _ => ?_)
set_option maxHeartbeats 8000000 in
set_option maxRecDepth 100000 in
theorem rung_named.calls (k : Nat) (a0 : Int) (r1 : Bool) (r2 : Int) (r3 : Int) (r4 : Bool) (w : World) (h : rung_named.f k a0 = some (r1, r2, r3, r4)) :
    Calls Tryd.prog 121 #[.int .i64 a0] w fun e w' => e = .returned (.tuple #[.bool r1, .int .i64 r2, .int .i64 r3, .bool r4]) ∧ Drawn0 w w' := by
  have H : (if a0 = 0 then (rung_named.j0 k a0 (a0 == 0)) else (rung_named.j0 k a0 (a0 == 1))) = some (r1, r2, r3, r4) := h
  clear h
  have HC2 := Aside0.mk H
  clear H
  go_enter Tryd.func121, Tryd.ntmps121
  go_upto_if 7 with (fail)
  go_cut [7] (fun v7 wc => ∃ (kq : Nat) (x7_1 : Bool), v7 = .bool x7_1 ∧ Aside0 (rung_named.j0 kq a0 x7_1 = some (r1, r2, r3, r4)) ∧ Aside0 (kq ≤ k) ∧ Drawn0 w wc)
  case first =>
    have H := HC2.out
    clear HC2
    by_cases c3 : a0 = 0
    · rw [if_pos c3] at H
      obtain ⟨c3b0, c3b1⟩ := qe c3
      clear c3
      (first | rw [c3b0] | (simp only [i64_w, i32_w]; rw [c3b0]) | skip)
      have H' := Aside0.mk H
      clear H
      go_wp2
      go_meet
      case rel => exact ⟨_, ((a0 == 0)), qv, H', ql, by repeat (first | exact Drawn0.refl _ | apply Drawn0.step)⟩
    · rw [if_neg c3] at H
      obtain ⟨c3b0, c3b1⟩ := qd c3
      (first | rw [c3b0] | (simp only [i64_w, i32_w]; rw [c3b0]) | skip)
      have H' := Aside0.mk H
      clear H
      go_wp2
      go_meet
      case rel => exact ⟨_, ((a0 == 1)), qv, H', ql, by repeat (first | exact Drawn0.refl _ | apply Drawn0.step)⟩
  case rest =>
    clear HC2
    obtain ⟨kq, x7_1, rfl, HA, HJ1, ⟨mc1, rfl⟩⟩ := hcut
    cases kq with
    | zero => exact absurd HA.out (by simp [rung_named.j0])
    | succ kj1 =>
      have H := HA.out
      clear HA
      simp only [rung_named.j0] at H
      by_cases c4 : x7_1 = true
      · subst c4
        rw [if_pos rfl] at H
        simp only [Option.some.injEq, Prod.mk.injEq] at H
        obtain ⟨rfl, rfl, rfl, rfl⟩ := H
        go_wp2
        refine bodyPost_ret (results_list (rs := [.tmp 2, .tmp 3, .tmp 4, .tmp 5]) rfl (by simp) (.tmp (.tmp (.tmp (.tmp .nil))))) rfl ?_
        exact ⟨by first | rfl | (simp; done) | (simp [*]; done), by repeat (first | exact Drawn0.refl _ | apply Drawn0.step)⟩
      · replace c4 := Bool.eq_false_iff.mpr c4
        subst c4
        rw [if_neg qf] at H
        by_cases c5 : a0 = 2
        · rw [if_pos c5] at H
          obtain ⟨c5b0, c5b1⟩ := qe c5
          clear c5
          simp only [Option.some.injEq, Prod.mk.injEq] at H
          obtain ⟨rfl, rfl, rfl, rfl⟩ := H
          go_wp2
          refine bodyPost_ret (results_list (rs := [.tmp 2, .tmp 3, .tmp 4, .tmp 5]) rfl (by simp) (.tmp (.tmp (.tmp (.tmp .nil))))) rfl ?_
          exact ⟨by first | rfl | (simp; done) | (simp [*]; done), by repeat (first | exact Drawn0.refl _ | apply Drawn0.step)⟩
        · rw [if_neg c5] at H
          obtain ⟨c5b0, c5b1⟩ := qd c5
          have HC6 := Aside0.mk H
          clear H
          go_upto_if 12 with (fail)
          go_cut [12] (fun v12 wc => ∃ (kq : Nat) (x12_5 : Bool), v12 = .bool x12_5 ∧ Aside0 (rung_named.j1 kq a0 x12_5 = some (r1, r2, r3, r4)) ∧ Aside0 (kq ≤ kj1) ∧ Drawn0 w wc)
          case first =>
            have H := HC6.out
            clear HC6
            by_cases c7 : a0 = 3
            · rw [if_pos c7] at H
              obtain ⟨c7b0, c7b1⟩ := qe c7
              clear c7
              (first | rw [c7b0] | (simp only [i64_w, i32_w]; rw [c7b0]) | skip)
              have H' := Aside0.mk H
              clear H
              go_wp2
              go_meet
              case rel => exact ⟨_, ((a0 == 3)), qv, H', ⟨by have := HJ1.out; first | omega | exact Nat.le_refl _⟩, by repeat (first | exact Drawn0.refl _ | apply Drawn0.step)⟩
            · rw [if_neg c7] at H
              obtain ⟨c7b0, c7b1⟩ := qd c7
              (first | rw [c7b0] | (simp only [i64_w, i32_w]; rw [c7b0]) | skip)
              by_cases c8 : a0 = 4
              · rw [if_pos c8] at H
                obtain ⟨c8b0, c8b1⟩ := qe c8
                clear c8
                have H' := Aside0.mk H
                clear H
                go_wp2
                go_meet
                case rel => exact ⟨_, ((a0 == 4)), qv, H', ⟨by have := HJ1.out; first | omega | exact Nat.le_refl _⟩, by repeat (first | exact Drawn0.refl _ | apply Drawn0.step)⟩
              · rw [if_neg c8] at H
                obtain ⟨c8b0, c8b1⟩ := qd c8
                by_cases c9 : a0 = 5
                · rw [if_pos c9] at H
                  obtain ⟨c9b0, c9b1⟩ := qe c9
                  clear c9
                  have H' := Aside0.mk H
                  clear H
                  go_wp2
                  go_meet
                  case rel => exact ⟨_, ((a0 == 5)), qv, H', ⟨by have := HJ1.out; first | omega | exact Nat.le_refl _⟩, by repeat (first | exact Drawn0.refl _ | apply Drawn0.step)⟩
                · rw [if_neg c9] at H
                  obtain ⟨c9b0, c9b1⟩ := qd c9
                  have H' := Aside0.mk H
                  clear H
                  go_wp2
                  go_meet
                  case rel => exact ⟨_, ((a0 == 6)), qv, H', ⟨by have := HJ1.out; first | omega | exact Nat.le_refl _⟩, by repeat (first | exact Drawn0.refl _ | apply Drawn0.step)⟩
          case rest =>
            clear HC6
            obtain ⟨kq, x12_5, rfl, HA, HJ5, ⟨mc5, rfl⟩⟩ := hcut
            cases kq with
            | zero => exact absurd HA.out (by simp [rung_named.j1])
            | succ kj5 =>
              have H := HA.out
              clear HA
              simp only [rung_named.j1] at H
              by_cases c10 : x12_5 = true
              · subst c10
                rw [if_pos rfl] at H
                simp only [Option.some.injEq, Prod.mk.injEq] at H
                obtain ⟨rfl, rfl, rfl, rfl⟩ := H
                go_wp2
                refine bodyPost_ret (results_list (rs := [.tmp 2, .tmp 3, .tmp 4, .tmp 5]) rfl (by simp) (.tmp (.tmp (.tmp (.tmp .nil))))) rfl ?_
                exact ⟨by first | rfl | (simp; done) | (simp [*]; done), by repeat (first | exact Drawn0.refl _ | apply Drawn0.step)⟩
              · replace c10 := Bool.eq_false_iff.mpr c10
                subst c10
                rw [if_neg qf] at H
                have HC11 := Aside0.mk H
                clear H
                go_upto_if 17 with (fail)
                go_cut [17] (fun v17 wc => ∃ (kq : Nat) (x17_10 : Bool), v17 = .bool x17_10 ∧ Aside0 (rung_named.j2 kq a0 x17_10 = some (r1, r2, r3, r4)) ∧ Aside0 (kq ≤ kj5) ∧ Drawn0 w wc)
                case first =>
                  have H := HC11.out
                  clear HC11
                  by_cases c12 : a0 = 7
                  · rw [if_pos c12] at H
                    obtain ⟨c12b0, c12b1⟩ := qe c12
                    clear c12
                    (first | rw [c12b0] | (simp only [i64_w, i32_w]; rw [c12b0]) | skip)
                    have H' := Aside0.mk H
                    clear H
                    go_wp2
                    go_meet
                    case rel => exact ⟨_, ((a0 == 7)), qv, H', ⟨by have := HJ1.out; have := HJ5.out; first | omega | exact Nat.le_refl _⟩, by repeat (first | exact Drawn0.refl _ | apply Drawn0.step)⟩
                  · rw [if_neg c12] at H
                    obtain ⟨c12b0, c12b1⟩ := qd c12
                    (first | rw [c12b0] | (simp only [i64_w, i32_w]; rw [c12b0]) | skip)
                    have H' := Aside0.mk H
                    clear H
                    go_wp2
                    go_meet
                    case rel => exact ⟨_, ((a0 == 8)), qv, H', ⟨by have := HJ1.out; have := HJ5.out; first | omega | exact Nat.le_refl _⟩, by repeat (first | exact Drawn0.refl _ | apply Drawn0.step)⟩
                case rest =>
                  clear HC11
                  obtain ⟨kq, x17_10, rfl, HA, HJ10, ⟨mc10, rfl⟩⟩ := hcut
                  cases kq with
                  | zero => exact absurd HA.out (by simp [rung_named.j2])
                  | succ kj10 =>
                    have H := HA.out
                    clear HA
                    simp only [rung_named.j2] at H
                    by_cases c13 : x17_10 = true
                    · subst c13
                      rw [if_pos rfl] at H
                      simp only [Option.some.injEq, Prod.mk.injEq] at H
                      obtain ⟨rfl, rfl, rfl, rfl⟩ := H
                      go_wp2
                      refine bodyPost_ret (results_list (rs := [.tmp 2, .tmp 3, .tmp 4, .tmp 5]) rfl (by simp) (.tmp (.tmp (.tmp (.tmp .nil))))) rfl ?_
                      exact ⟨by first | rfl | (simp; done) | (simp [*]; done), by repeat (first | exact Drawn0.refl _ | apply Drawn0.step)⟩
                    · replace c13 := Bool.eq_false_iff.mpr c13
                      subst c13
                      rw [if_neg qf] at H
                      by_cases c14 : a0 = 9
                      · rw [if_pos c14] at H
                        obtain ⟨c14b0, c14b1⟩ := qe c14
                        clear c14
                        simp only [Option.some.injEq, Prod.mk.injEq] at H
                        obtain ⟨rfl, rfl, rfl, rfl⟩ := H
                        go_wp2
                        refine bodyPost_ret (results_list (rs := [.tmp 2, .tmp 3, .tmp 4, .tmp 5]) rfl (by simp) (.tmp (.tmp (.tmp (.tmp .nil))))) rfl ?_
                        exact ⟨by first | rfl | (simp; done) | (simp [*]; done), by repeat (first | exact Drawn0.refl _ | apply Drawn0.step)⟩
                      · rw [if_neg c14] at H
                        obtain ⟨c14b0, c14b1⟩ := qd c14
                        simp only [Option.some.injEq, Prod.mk.injEq] at H
                        obtain ⟨rfl, rfl, rfl, rfl⟩ := H
                        go_wp2
                        refine bodyPost_ret (results_list (rs := [.tmp 2, .tmp 3, .tmp 4, .tmp 5]) rfl (by simp) (.tmp (.tmp (.tmp (.tmp .nil))))) rfl ?_
                        exact ⟨by first | rfl | (simp; done) | (simp [*]; done), by repeat (first | exact Drawn0.refl _ | apply Drawn0.step)⟩
mutual
def rung_codeN.l0 : Nat → List ByteArray → List ByteArray → Int → List (S40) → Int → Int → Option (Int)
  | 0, _, _, _, _, _, _ => none
  | k + 1, x1, x2, x7, x17, x18, x19 => if x19 < x18 then (if 0 ≤ x19 then (if x19 < (x17.length : Int) then ((rung_named.f k ((rd_T40 x17 x19).f0)).bind fun bt103 => (if bt103.2.2.2 = true then (if bt103.1 = true then (if ((rd_T40 x17 x19).f0) = 2 then (rung_codeN.j1 k x1 x2 x7 bt103.1 bt103.2.1 bt103.2.2.1 x17 x18 x19 false ((rd_T40 x17 x19).f0) ((rd_T40 x17 x19).f1) ((rd_T40 x17 x19).f2.f0) ((rd_T40 x17 x19).f2.f1) ((rd_T40 x17 x19).f2.f2) ((rd_T40 x17 x19).f2.f3)) else ((rung_blank.f ((rd_T40 x17 x19).f2.f0) ((rd_T40 x17 x19).f2.f1) ((rd_T40 x17 x19).f2.f2) ((rd_T40 x17 x19).f2.f3)).bind fun t107 => (rung_codeN.j1 k x1 x2 x7 bt103.1 bt103.2.1 bt103.2.2.1 x17 x18 x19 (!t107) ((rd_T40 x17 x19).f0) ((rd_T40 x17 x19).f1) ((rd_T40 x17 x19).f2.f0) ((rd_T40 x17 x19).f2.f1) ((rd_T40 x17 x19).f2.f2) ((rd_T40 x17 x19).f2.f3)))) else (if ((rd_T40 x17 x19).f1).toList = ([] : List UInt8) then (if ((rd_T40 x17 x19).f0) = 2 then (rung_codeN.j1 k x1 x2 x7 bt103.1 bt103.2.1 bt103.2.2.1 x17 x18 x19 false ((rd_T40 x17 x19).f0) ((rd_T40 x17 x19).f1) ((rd_T40 x17 x19).f2.f0) ((rd_T40 x17 x19).f2.f1) ((rd_T40 x17 x19).f2.f2) ((rd_T40 x17 x19).f2.f3)) else ((rung_blank.f ((rd_T40 x17 x19).f2.f0) ((rd_T40 x17 x19).f2.f1) ((rd_T40 x17 x19).f2.f2) ((rd_T40 x17 x19).f2.f3)).bind fun t108 => (rung_codeN.j1 k x1 x2 x7 bt103.1 bt103.2.1 bt103.2.2.1 x17 x18 x19 (!t108) ((rd_T40 x17 x19).f0) ((rd_T40 x17 x19).f1) ((rd_T40 x17 x19).f2.f0) ((rd_T40 x17 x19).f2.f1) ((rd_T40 x17 x19).f2.f2) ((rd_T40 x17 x19).f2.f3)))) else (rung_codeN.j1 k x1 x2 x7 bt103.1 bt103.2.1 bt103.2.2.1 x17 x18 x19 (((rd_T40 x17 x19).f1).toList != ([] : List UInt8)) ((rd_T40 x17 x19).f0) ((rd_T40 x17 x19).f1) ((rd_T40 x17 x19).f2.f0) ((rd_T40 x17 x19).f2.f1) ((rd_T40 x17 x19).f2.f2) ((rd_T40 x17 x19).f2.f3)))) else (rung_codeN.j1 k x1 x2 x7 bt103.1 bt103.2.1 bt103.2.2.1 x17 x18 x19 (!bt103.2.2.2) ((rd_T40 x17 x19).f0) ((rd_T40 x17 x19).f1) ((rd_T40 x17 x19).f2.f0) ((rd_T40 x17 x19).f2.f1) ((rd_T40 x17 x19).f2.f2) ((rd_T40 x17 x19).f2.f3)))) else (none)) else (none)) else (if x7 = 1 then (some 0) else (some 1))
def rung_codeN.j1 : Nat → List ByteArray → List ByteArray → Int → Bool → Int → Int → List (S40) → Int → Int → Bool → Int → ByteArray → Int → Int → ByteArray → List (S34) → Option (Int)
  | 0, _, _, _, _, _, _, _, _, _, _, _, _, _, _, _, _ => none
  | k + 1, x1, x2, x7, x10, x11, x12, x17, x18, x19, x31, x103000, x103001, x103002, x103003, x103004, x103005 => if x31 = true then (some 1) else (if x10 = true then ((slices_Contains_string_string.f k x1 x103001).bind fun t109 => (rung_codeN.j2 k x1 x2 x7 x11 x12 x17 x18 x19 (!t109) x103000 x103001 x103002 x103003 x103004 x103005)) else (rung_codeN.j2 k x1 x2 x7 x11 x12 x17 x18 x19 false x103000 x103001 x103002 x103003 x103004 x103005))
def rung_codeN.j2 : Nat → List ByteArray → List ByteArray → Int → Int → Int → List (S40) → Int → Int → Bool → Int → ByteArray → Int → Int → ByteArray → List (S34) → Option (Int)
  | 0, _, _, _, _, _, _, _, _, _, _, _, _, _, _, _ => none
  | k + 1, x1, x2, x7, x11, x12, x17, x18, x19, x50, x103000, x103001, x103002, x103003, x103004, x103005 => if x50 = true then (rung_codeN.j3 k x1 x2 x7 x11 x12 x17 x18 x19 x50 x103000 x103001 x103002 x103003 x103004 x103005) else (if x103000 = 2 then ((rung_strangeN.f k x103002 x103003 x103004 x103005 x2).bind fun t110 => (rung_codeN.j3 k x1 x2 x7 x11 x12 x17 x18 x19 t110 x103000 x103001 x103002 x103003 x103004 x103005)) else (rung_codeN.j3 k x1 x2 x7 x11 x12 x17 x18 x19 false x103000 x103001 x103002 x103003 x103004 x103005))
def rung_codeN.j3 : Nat → List ByteArray → List ByteArray → Int → Int → Int → List (S40) → Int → Int → Bool → Int → ByteArray → Int → Int → ByteArray → List (S34) → Option (Int)
  | 0, _, _, _, _, _, _, _, _, _, _, _, _, _, _, _ => none
  | k + 1, x1, x2, x7, x11, x12, x17, x18, x19, x50, x103000, x103001, x103002, x103003, x103004, x103005 => if x50 = true then (some 21) else (if x103000 = 2 then ((expr_May.f k x103002 x103003 x103004 x103005).bind fun t111 => (rung_codeN.j4 k x1 x2 x7 x11 x12 x17 x18 x19 (!t111))) else (rung_codeN.j4 k x1 x2 x7 x11 x12 x17 x18 x19 false))
def rung_codeN.j4 : Nat → List ByteArray → List ByteArray → Int → Int → Int → List (S40) → Int → Int → Bool → Option (Int)
  | 0, _, _, _, _, _, _, _, _, _ => none
  | k + 1, x1, x2, x7, x11, x12, x17, x18, x19, x68 => if x68 = true then (some 1) else (if x7 < x11 then (some 1) else (if (wrap64 ((wrap64 (x7 - x11)) + x12)) > 8 then (some 1) else (rung_codeN.l0 k x1 x2 (wrap64 (x7 + (wrap64 (x12 - x11)))) x17 x18 (wrap64 (x19 + 1)))))
end
def rung_codeN.f (k : Nat) (l0 : List (S40)) (l1 : List ByteArray) (l2 : List ByteArray) : Option (Int) := if (l0.length : Int) > 12 then (some 2) else (rung_codeN.l0 k l1 l2 0 l0 (l0.length : Int) 0)
theorem rung_codeN.mono_l : ∀ k, (∀ y0 y1 y2 y3 y4 y5, LeO (rung_codeN.l0 k y0 y1 y2 y3 y4 y5) (rung_codeN.l0 (k + 1) y0 y1 y2 y3 y4 y5)) ∧ (∀ y0 y1 y2 y3 y4 y5 y6 y7 y8 y9 y10 y11 y12 y13 y14 y15, LeO (rung_codeN.j1 k y0 y1 y2 y3 y4 y5 y6 y7 y8 y9 y10 y11 y12 y13 y14 y15) (rung_codeN.j1 (k + 1) y0 y1 y2 y3 y4 y5 y6 y7 y8 y9 y10 y11 y12 y13 y14 y15)) ∧ (∀ y0 y1 y2 y3 y4 y5 y6 y7 y8 y9 y10 y11 y12 y13 y14, LeO (rung_codeN.j2 k y0 y1 y2 y3 y4 y5 y6 y7 y8 y9 y10 y11 y12 y13 y14) (rung_codeN.j2 (k + 1) y0 y1 y2 y3 y4 y5 y6 y7 y8 y9 y10 y11 y12 y13 y14)) ∧ (∀ y0 y1 y2 y3 y4 y5 y6 y7 y8 y9 y10 y11 y12 y13 y14, LeO (rung_codeN.j3 k y0 y1 y2 y3 y4 y5 y6 y7 y8 y9 y10 y11 y12 y13 y14) (rung_codeN.j3 (k + 1) y0 y1 y2 y3 y4 y5 y6 y7 y8 y9 y10 y11 y12 y13 y14)) ∧ (∀ y0 y1 y2 y3 y4 y5 y6 y7 y8, LeO (rung_codeN.j4 k y0 y1 y2 y3 y4 y5 y6 y7 y8) (rung_codeN.j4 (k + 1) y0 y1 y2 y3 y4 y5 y6 y7 y8))
  | 0 => ⟨fun _ _ _ _ _ _ r h => by simp [rung_codeN.l0] at h, fun _ _ _ _ _ _ _ _ _ _ _ _ _ _ _ _ r h => by simp [rung_codeN.j1] at h, fun _ _ _ _ _ _ _ _ _ _ _ _ _ _ _ r h => by simp [rung_codeN.j2] at h, fun _ _ _ _ _ _ _ _ _ _ _ _ _ _ _ r h => by simp [rung_codeN.j3] at h, fun _ _ _ _ _ _ _ _ _ r h => by simp [rung_codeN.j4] at h⟩
  | k + 1 => by
    obtain ⟨ih0, ih1, ih2, ih3, ih4⟩ := rung_codeN.mono_l k
    refine ⟨?_, ?_, ?_, ?_, ?_⟩
    · intro y0 y1 y2 y3 y4 y5
      unfold rung_codeN.l0
      repeat' first
      | (with_reducible exact ih0 _ _ _ _ _ _)
      | (with_reducible exact ih1 _ _ _ _ _ _ _ _ _ _ _ _ _ _ _ _)
      | (with_reducible exact ih2 _ _ _ _ _ _ _ _ _ _ _ _ _ _ _)
      | (with_reducible exact ih3 _ _ _ _ _ _ _ _ _ _ _ _ _ _ _)
      | (with_reducible exact ih4 _ _ _ _ _ _ _ _ _)
      | (with_reducible exact expr_May.mono _ _ _ _ _)
      | (with_reducible exact rung_named.mono _ _)
      | (with_reducible exact rung_strangeN.mono _ _ _ _ _ _)
      | (with_reducible exact slices_Contains_string_string.mono _ _ _)
      | (with_reducible exact LeO.refl _)
      | (with_reducible exact LeO.none _)
      | (with_reducible refine LeO.ite ?_ ?_)
      | (with_reducible refine LeO.bind ?_ (fun _ => ?_))
      | exact ih0 _ _ _ _ _ _
      | exact ih1 _ _ _ _ _ _ _ _ _ _ _ _ _ _ _ _
      | exact ih2 _ _ _ _ _ _ _ _ _ _ _ _ _ _ _
      | exact ih3 _ _ _ _ _ _ _ _ _ _ _ _ _ _ _
      | exact ih4 _ _ _ _ _ _ _ _ _
      | exact expr_May.mono _ _ _ _ _
      | exact rung_named.mono _ _
      | exact rung_strangeN.mono _ _ _ _ _ _
      | exact slices_Contains_string_string.mono _ _ _
      | exact LeO.none _
      | refine LeO.ite ?_ ?_
      | refine LeO.bind ?_ (fun _ => ?_)
    · intro y0 y1 y2 y3 y4 y5 y6 y7 y8 y9 y10 y11 y12 y13 y14 y15
      unfold rung_codeN.j1
      repeat' first
      | (with_reducible exact ih0 _ _ _ _ _ _)
      | (with_reducible exact ih1 _ _ _ _ _ _ _ _ _ _ _ _ _ _ _ _)
      | (with_reducible exact ih2 _ _ _ _ _ _ _ _ _ _ _ _ _ _ _)
      | (with_reducible exact ih3 _ _ _ _ _ _ _ _ _ _ _ _ _ _ _)
      | (with_reducible exact ih4 _ _ _ _ _ _ _ _ _)
      | (with_reducible exact expr_May.mono _ _ _ _ _)
      | (with_reducible exact rung_named.mono _ _)
      | (with_reducible exact rung_strangeN.mono _ _ _ _ _ _)
      | (with_reducible exact slices_Contains_string_string.mono _ _ _)
      | (with_reducible exact LeO.refl _)
      | (with_reducible exact LeO.none _)
      | (with_reducible refine LeO.ite ?_ ?_)
      | (with_reducible refine LeO.bind ?_ (fun _ => ?_))
      | exact ih0 _ _ _ _ _ _
      | exact ih1 _ _ _ _ _ _ _ _ _ _ _ _ _ _ _ _
      | exact ih2 _ _ _ _ _ _ _ _ _ _ _ _ _ _ _
      | exact ih3 _ _ _ _ _ _ _ _ _ _ _ _ _ _ _
      | exact ih4 _ _ _ _ _ _ _ _ _
      | exact expr_May.mono _ _ _ _ _
      | exact rung_named.mono _ _
      | exact rung_strangeN.mono _ _ _ _ _ _
      | exact slices_Contains_string_string.mono _ _ _
      | exact LeO.none _
      | refine LeO.ite ?_ ?_
      | refine LeO.bind ?_ (fun _ => ?_)
    · intro y0 y1 y2 y3 y4 y5 y6 y7 y8 y9 y10 y11 y12 y13 y14
      unfold rung_codeN.j2
      repeat' first
      | (with_reducible exact ih0 _ _ _ _ _ _)
      | (with_reducible exact ih1 _ _ _ _ _ _ _ _ _ _ _ _ _ _ _ _)
      | (with_reducible exact ih2 _ _ _ _ _ _ _ _ _ _ _ _ _ _ _)
      | (with_reducible exact ih3 _ _ _ _ _ _ _ _ _ _ _ _ _ _ _)
      | (with_reducible exact ih4 _ _ _ _ _ _ _ _ _)
      | (with_reducible exact expr_May.mono _ _ _ _ _)
      | (with_reducible exact rung_named.mono _ _)
      | (with_reducible exact rung_strangeN.mono _ _ _ _ _ _)
      | (with_reducible exact slices_Contains_string_string.mono _ _ _)
      | (with_reducible exact LeO.refl _)
      | (with_reducible exact LeO.none _)
      | (with_reducible refine LeO.ite ?_ ?_)
      | (with_reducible refine LeO.bind ?_ (fun _ => ?_))
      | exact ih0 _ _ _ _ _ _
      | exact ih1 _ _ _ _ _ _ _ _ _ _ _ _ _ _ _ _
      | exact ih2 _ _ _ _ _ _ _ _ _ _ _ _ _ _ _
      | exact ih3 _ _ _ _ _ _ _ _ _ _ _ _ _ _ _
      | exact ih4 _ _ _ _ _ _ _ _ _
      | exact expr_May.mono _ _ _ _ _
      | exact rung_named.mono _ _
      | exact rung_strangeN.mono _ _ _ _ _ _
      | exact slices_Contains_string_string.mono _ _ _
      | exact LeO.none _
      | refine LeO.ite ?_ ?_
      | refine LeO.bind ?_ (fun _ => ?_)
    · intro y0 y1 y2 y3 y4 y5 y6 y7 y8 y9 y10 y11 y12 y13 y14
      unfold rung_codeN.j3
      repeat' first
      | (with_reducible exact ih0 _ _ _ _ _ _)
      | (with_reducible exact ih1 _ _ _ _ _ _ _ _ _ _ _ _ _ _ _ _)
      | (with_reducible exact ih2 _ _ _ _ _ _ _ _ _ _ _ _ _ _ _)
      | (with_reducible exact ih3 _ _ _ _ _ _ _ _ _ _ _ _ _ _ _)
      | (with_reducible exact ih4 _ _ _ _ _ _ _ _ _)
      | (with_reducible exact expr_May.mono _ _ _ _ _)
      | (with_reducible exact rung_named.mono _ _)
      | (with_reducible exact rung_strangeN.mono _ _ _ _ _ _)
      | (with_reducible exact slices_Contains_string_string.mono _ _ _)
      | (with_reducible exact LeO.refl _)
      | (with_reducible exact LeO.none _)
      | (with_reducible refine LeO.ite ?_ ?_)
      | (with_reducible refine LeO.bind ?_ (fun _ => ?_))
      | exact ih0 _ _ _ _ _ _
      | exact ih1 _ _ _ _ _ _ _ _ _ _ _ _ _ _ _ _
      | exact ih2 _ _ _ _ _ _ _ _ _ _ _ _ _ _ _
      | exact ih3 _ _ _ _ _ _ _ _ _ _ _ _ _ _ _
      | exact ih4 _ _ _ _ _ _ _ _ _
      | exact expr_May.mono _ _ _ _ _
      | exact rung_named.mono _ _
      | exact rung_strangeN.mono _ _ _ _ _ _
      | exact slices_Contains_string_string.mono _ _ _
      | exact LeO.none _
      | refine LeO.ite ?_ ?_
      | refine LeO.bind ?_ (fun _ => ?_)
    · intro y0 y1 y2 y3 y4 y5 y6 y7 y8
      unfold rung_codeN.j4
      repeat' first
      | (with_reducible exact ih0 _ _ _ _ _ _)
      | (with_reducible exact ih1 _ _ _ _ _ _ _ _ _ _ _ _ _ _ _ _)
      | (with_reducible exact ih2 _ _ _ _ _ _ _ _ _ _ _ _ _ _ _)
      | (with_reducible exact ih3 _ _ _ _ _ _ _ _ _ _ _ _ _ _ _)
      | (with_reducible exact ih4 _ _ _ _ _ _ _ _ _)
      | (with_reducible exact expr_May.mono _ _ _ _ _)
      | (with_reducible exact rung_named.mono _ _)
      | (with_reducible exact rung_strangeN.mono _ _ _ _ _ _)
      | (with_reducible exact slices_Contains_string_string.mono _ _ _)
      | (with_reducible exact LeO.refl _)
      | (with_reducible exact LeO.none _)
      | (with_reducible refine LeO.ite ?_ ?_)
      | (with_reducible refine LeO.bind ?_ (fun _ => ?_))
      | exact ih0 _ _ _ _ _ _
      | exact ih1 _ _ _ _ _ _ _ _ _ _ _ _ _ _ _ _
      | exact ih2 _ _ _ _ _ _ _ _ _ _ _ _ _ _ _
      | exact ih3 _ _ _ _ _ _ _ _ _ _ _ _ _ _ _
      | exact ih4 _ _ _ _ _ _ _ _ _
      | exact expr_May.mono _ _ _ _ _
      | exact rung_named.mono _ _
      | exact rung_strangeN.mono _ _ _ _ _ _
      | exact slices_Contains_string_string.mono _ _ _
      | exact LeO.none _
      | refine LeO.ite ?_ ?_
      | refine LeO.bind ?_ (fun _ => ?_)
theorem rung_codeN.mono : ∀ a0 a1 a2 k, LeO (rung_codeN.f k a0 a1 a2) (rung_codeN.f (k + 1) a0 a1 a2) := by
  intro a0 a1 a2 k
  obtain ⟨ih0, ih1, ih2, ih3, ih4⟩ := rung_codeN.mono_l k
  unfold rung_codeN.f
  repeat' first
      | (with_reducible exact ih0 _ _ _ _ _ _)
      | (with_reducible exact ih1 _ _ _ _ _ _ _ _ _ _ _ _ _ _ _ _)
      | (with_reducible exact ih2 _ _ _ _ _ _ _ _ _ _ _ _ _ _ _)
      | (with_reducible exact ih3 _ _ _ _ _ _ _ _ _ _ _ _ _ _ _)
      | (with_reducible exact ih4 _ _ _ _ _ _ _ _ _)
      | (with_reducible exact expr_May.mono _ _ _ _ _)
      | (with_reducible exact rung_named.mono _ _)
      | (with_reducible exact rung_strangeN.mono _ _ _ _ _ _)
      | (with_reducible exact slices_Contains_string_string.mono _ _ _)
      | (with_reducible exact LeO.refl _)
      | (with_reducible exact LeO.none _)
      | (with_reducible refine LeO.ite ?_ ?_)
      | (with_reducible refine LeO.bind ?_ (fun _ => ?_))
      | exact ih0 _ _ _ _ _ _
      | exact ih1 _ _ _ _ _ _ _ _ _ _ _ _ _ _ _ _
      | exact ih2 _ _ _ _ _ _ _ _ _ _ _ _ _ _ _
      | exact ih3 _ _ _ _ _ _ _ _ _ _ _ _ _ _ _
      | exact ih4 _ _ _ _ _ _ _ _ _
      | exact expr_May.mono _ _ _ _ _
      | exact rung_named.mono _ _
      | exact rung_strangeN.mono _ _ _ _ _ _
      | exact slices_Contains_string_string.mono _ _ _
      | exact LeO.none _
      | refine LeO.ite ?_ ?_
      | refine LeO.bind ?_ (fun _ => ?_)
set_option maxHeartbeats 8000000 in
set_option maxRecDepth 100000 in
theorem rung_codeN.calls (k : Nat) (A0 : Option Addr) (c0 : Nat) (l0 : List (S40)) (A1 : Option Addr) (c1 : Nat) (l1 : List ByteArray) (A2 : Option Addr) (c2 : Nat) (l2 : List ByteArray) (r : Int) (w : World) (hr0 : Kd.C k40 w A0 l0.length l0) (hc0 : l0.length ≤ c0) (hr1 : Kd.C Kd.string w A1 l1.length l1) (hc1 : l1.length ≤ c1) (hr2 : Kd.C Kd.string w A2 l2.length l2) (hc2 : l2.length ≤ c2) (h : rung_codeN.f k l0 l1 l2 = some r) (hN : A2 = none) (hT : UT w) :
  Calls Tryd.prog 92 #[.slice A0 l0.length c0, .slice A1 l1.length c1, .slice A2 l2.length c2] w fun e w' => e = .returned (.int .i64 r) ∧ Below w.heap.size w w' := by
 have HT0 := Aside0.mk hT
 clear hT
 have HNL := Aside0.mk hN
 clear hN
 have hu40 := Tryd.underlying40
 have hu34 := Tryd.underlying34
 have HR0 := Aside0.mk hr0
 have HC0 := Aside0.mk hc0
 clear hr0 hc0
 have HR1 := Aside0.mk hr1
 have HC1 := Aside0.mk hc1
 clear hr1 hc1
 have HR2 := Aside0.mk hr2
 have HC2 := Aside0.mk hc2
 clear hr2 hc2
 have HB := Aside0.mk (Below.refl w.heap.size w)
 have H : (if (l0.length : Int) > 12 then (some 2) else (rung_codeN.l0 k l1 l2 0 l0 (l0.length : Int) 0)) = some r := h
 clear h
 by_cases c4 : (l0.length : Int) > 12
 ·rw [if_pos c4] at H
  have c4b0 : decide (12 < (l0.length : Int)) = true := decide_eq_true c4
  have c4b1 : decide (12 < l0.length) = true := decide_eq_true (by omega)
  clear c4
  obtain rfl := Option.some.inj H
  go_enter Tryd.func92, Tryd.ntmps92
  go_wp2
  go_ret
  exact qr
 ·rw [if_neg c4] at H
  have c4b0 : decide (12 < (l0.length : Int)) = false := decide_eq_false c4
  have c4b1 : decide (12 < l0.length) = false := decide_eq_false (by omega)
  clear c4
  have H' := Aside0.mk H
  clear H
  go_enter Tryd.func92, Tryd.ntmps92
  go_wp2
  go_loopg [7, 19] k (fun kq v7 v19 w' => ∃ (x7_1 : Int) (x19_1 : Int), v7 = .int .i64 x7_1 ∧ v19 = .int .i64 x19_1 ∧ Aside0 (rung_codeN.l0 kq l1 l2 x7_1 l0 (l0.length : Int) x19_1 = some r) ∧ Aside0 (kq ≤ k) ∧ Aside0 (Below w.heap.size w w'))
  case atStart => exact ⟨(0), (0), qv, qv, H', ⟨Nat.le_refl _⟩, qB⟩
  case round =>
   clear H'
   obtain ⟨x7_1, x19_1, rfl, rfl, HA, HK1, HB⟩ := hrel
   cases gk with
   | zero => exact absurd HA.out (by simp [rung_codeN.l0])
   | succ k1 =>
    have H := HA.out
    clear HA
    simp only [rung_codeN.l0] at H
    by_cases c5 : x19_1 < (l0.length : Int)
    ·rw [if_pos c5] at H
     have c5b0 : decide (x19_1 < (l0.length : Int)) = true := decide_eq_true c5
     clear c5
     by_cases c6 : 0 ≤ x19_1
     ·rw [if_pos c6] at H
      have c6b0 : decide (0 ≤ x19_1) = true := decide_eq_true c6
      clear c6
      by_cases c7 : x19_1 < (l0.length : Int)
      ·rw [if_pos c7] at H
       have c7b0 : decide (x19_1 < (l0.length : Int)) = true := decide_eq_true c7
       clear c7
       replace H := qi H
       obtain ⟨⟨t103, t104, t105, t106⟩, A8, H⟩ := H
       replace H : (if t106 = true then (if t103 = true then (if ((rd_T40 l0 x19_1).f0) = 2 then (rung_codeN.j1 k1 l1 l2 x7_1 t103 t104 t105 l0 (l0.length : Int) x19_1 false ((rd_T40 l0 x19_1).f0) ((rd_T40 l0 x19_1).f1) ((rd_T40 l0 x19_1).f2.f0) ((rd_T40 l0 x19_1).f2.f1) ((rd_T40 l0 x19_1).f2.f2) ((rd_T40 l0 x19_1).f2.f3)) else ((rung_blank.f ((rd_T40 l0 x19_1).f2.f0) ((rd_T40 l0 x19_1).f2.f1) ((rd_T40 l0 x19_1).f2.f2) ((rd_T40 l0 x19_1).f2.f3)).bind fun t107 => (rung_codeN.j1 k1 l1 l2 x7_1 t103 t104 t105 l0 (l0.length : Int) x19_1 (!t107) ((rd_T40 l0 x19_1).f0) ((rd_T40 l0 x19_1).f1) ((rd_T40 l0 x19_1).f2.f0) ((rd_T40 l0 x19_1).f2.f1) ((rd_T40 l0 x19_1).f2.f2) ((rd_T40 l0 x19_1).f2.f3)))) else (if ((rd_T40 l0 x19_1).f1).toList = ([] : List UInt8) then (if ((rd_T40 l0 x19_1).f0) = 2 then (rung_codeN.j1 k1 l1 l2 x7_1 t103 t104 t105 l0 (l0.length : Int) x19_1 false ((rd_T40 l0 x19_1).f0) ((rd_T40 l0 x19_1).f1) ((rd_T40 l0 x19_1).f2.f0) ((rd_T40 l0 x19_1).f2.f1) ((rd_T40 l0 x19_1).f2.f2) ((rd_T40 l0 x19_1).f2.f3)) else ((rung_blank.f ((rd_T40 l0 x19_1).f2.f0) ((rd_T40 l0 x19_1).f2.f1) ((rd_T40 l0 x19_1).f2.f2) ((rd_T40 l0 x19_1).f2.f3)).bind fun t108 => (rung_codeN.j1 k1 l1 l2 x7_1 t103 t104 t105 l0 (l0.length : Int) x19_1 (!t108) ((rd_T40 l0 x19_1).f0) ((rd_T40 l0 x19_1).f1) ((rd_T40 l0 x19_1).f2.f0) ((rd_T40 l0 x19_1).f2.f1) ((rd_T40 l0 x19_1).f2.f2) ((rd_T40 l0 x19_1).f2.f3)))) else (rung_codeN.j1 k1 l1 l2 x7_1 t103 t104 t105 l0 (l0.length : Int) x19_1 (((rd_T40 l0 x19_1).f1).toList != ([] : List UInt8)) ((rd_T40 l0 x19_1).f0) ((rd_T40 l0 x19_1).f1) ((rd_T40 l0 x19_1).f2.f0) ((rd_T40 l0 x19_1).f2.f1) ((rd_T40 l0 x19_1).f2.f2) ((rd_T40 l0 x19_1).f2.f3)))) else (rung_codeN.j1 k1 l1 l2 x7_1 t103 t104 t105 l0 (l0.length : Int) x19_1 (!t106) ((rd_T40 l0 x19_1).f0) ((rd_T40 l0 x19_1).f1) ((rd_T40 l0 x19_1).f2.f0) ((rd_T40 l0 x19_1).f2.f1) ((rd_T40 l0 x19_1).f2.f2) ((rd_T40 l0 x19_1).f2.f3))) = some r := H
       have HC9 := Aside0.mk H
       clear H
       have p101 : 0 ≤ (x19_1 : Int) := qa
       have q101 : x19_1 < (l0.length : Int) := qa
       obtain ⟨ad101, A101_5, c101_5, e101, hx101_0, hx101_1, hx101_2, hx101_3, hx101_4, hx101_5, hl101_5, hi101_5⟩ := at_T40 HR0.out x19_1 p101 q101
       cases e101
       replace hx101_0 := qc HB.out hx101_0
       replace hx101_1 := qc HB.out hx101_1
       replace hx101_2 := qc HB.out hx101_2
       replace hx101_3 := qc HB.out hx101_3
       replace hx101_4 := qc HB.out hx101_4
       replace hx101_5 := qc HB.out hx101_5
       have HR101_5 := Aside0.mk hi101_5
       have HC101_5 := Aside0.mk hl101_5
       clear hi101_5 hl101_5
       replace p101 := eq_true p101
       replace q101 := eq_true q101
       go_upto_if 31 with (first | ((with_reducible refine gate_dst (N := 9) rfl ?_); refine box_event ?hg (N := 9) ?hd (cs := #[.int .i64 0, .string (⟨#[]⟩ : ByteArray), .int .i64 0, .int .i64 0, .string (⟨#[]⟩ : ByteArray), .slice none 0 0]) (t := 40) ?hr ?_; (case hd => rfl); (case hg => rfl); (case hr => first | (go_simp; done) | (go_simp; rfl)); intro gb102 hg w10 hbox hb; have n0_ := qs hb; have n1_ := Aside0.mk (hbox); have n2_ := Aside0.mk ((by rw [hg]; exact (below_size qb) : w.heap.size ≤ gb102)); have n3_ := Aside0.mk ((by rw [hg]; exact (below_size qb) : w.heap.size ≤ gb102)); clear HB; have HB := n0_; have BK102 := n1_; have GW102 := n2_; have GE102 := n3_; clear n0_ n1_ n2_ n3_; clear hb hbox hg; obtain ⟨_, _, _, _, _, _, _, _, _, _, _, _⟩ := q6 BK102.out) | ((with_reducible refine gate_callee (f := 121) rfl ?_); refine goesL_ (some 26) rfl rfl Tryd.func121 (by kernel_rfl) rfl #[.int .i64 ((rd_T40 l0 x19_1).f0)] rfl qm ?_; (with_reducible refine (rung_named.calls k1 ((rd_T40 l0 x19_1).f0) t103 t104 t105 t106 _ A8.out).mono ?_); rintro e w' ⟨rfl, ⟨nd, rfl⟩⟩; refine ⟨_, rfl, ?_⟩))
       (try simp only [Act.put, List.setIfInBounds_toArray, List.set_cons_zero, List.set_cons_succ])
       go_cut [31] (fun v31 wc => ∃ (kq : Nat) (x31_8 : Bool), v31 = .bool x31_8 ∧ Aside0 (rung_codeN.j1 kq l1 l2 x7_1 t103 t104 t105 l0 (l0.length : Int) x19_1 x31_8 ((rd_T40 l0 x19_1).f0) ((rd_T40 l0 x19_1).f1) ((rd_T40 l0 x19_1).f2.f0) ((rd_T40 l0 x19_1).f2.f1) ((rd_T40 l0 x19_1).f2.f2) ((rd_T40 l0 x19_1).f2.f3) = some r) ∧ Aside0 (kq ≤ k1) ∧ Aside0 (wc.heap[gb102]? = some (.cells #[.int .i64 ((rd_T40 l0 x19_1).f0), .string ((rd_T40 l0 x19_1).f1), .int .i64 ((rd_T40 l0 x19_1).f2.f0), .int .i64 ((rd_T40 l0 x19_1).f2.f1), .string ((rd_T40 l0 x19_1).f2.f2), (.slice A101_5 ((rd_T40 l0 x19_1).f2.f3).length c101_5)] 40 (0, 0))) ∧ Aside0 (Below w.heap.size w wc))
       case first =>
        have H := HC9.out
        clear HC9
        by_cases c12 : t106 = true
        ·subst c12
         rw [if_pos rfl] at H
         by_cases c13 : t103 = true
         ·subst c13
          rw [if_pos rfl] at H
          by_cases c14 : ((rd_T40 l0 x19_1).f0) = 2
          ·rw [if_pos c14] at H
           obtain ⟨c14b0, c14b1⟩ := qe c14
           clear c14
           (first | rw [c14b0] | (simp only [i64_w, i32_w]; rw [c14b0]) | skip)
           have H' := Aside0.mk H
           clear H
           obtain ⟨_, _, _, _, _, _, _, _, _, _, _, _⟩ := q6 BK102.out
           go_wp2
           go_meet
           case rel => exact ⟨_, (false), qv, H', ⟨by have := HK1.out; first | omega | exact Nat.le_refl _⟩, qY, qB⟩
          ·rw [if_neg c14] at H
           obtain ⟨c14b0, c14b1⟩ := qd c14
           (first | rw [c14b0] | (simp only [i64_w, i32_w]; rw [c14b0]) | skip)
           replace H := qi H
           obtain ⟨t107, A16, H⟩ := H
           have H' := Aside0.mk H
           clear H
           obtain ⟨_, _, _, _, _, _, _, _, _, _, _, _⟩ := q6 BK102.out
           go_wp2_with (first | (go_at_call 122; (with_reducible refine (rung_blank.calls ((rd_T40 l0 x19_1).f2.f0) ((rd_T40 l0 x19_1).f2.f1) ((rd_T40 l0 x19_1).f2.f2) _ _ ((rd_T40 l0 x19_1).f2.f3) t107 _ ?side1 ?side2 A16.out).mono ?_); (case side1 => exact Kd.C_below HR101_5.out qb); (case side2 => exact HC101_5.out); rintro e w18 ⟨rfl, hb⟩; have n0_ := Aside0.mk (blk_below (g := gb102) (o := .cells #[.int .i64 ((rd_T40 l0 x19_1).f0), .string ((rd_T40 l0 x19_1).f1), .int .i64 ((rd_T40 l0 x19_1).f2.f0), .int .i64 ((rd_T40 l0 x19_1).f2.f1), .string ((rd_T40 l0 x19_1).f2.f2), .slice A101_5 ((rd_T40 l0 x19_1).f2.f3).length c101_5] 40 (0, 0)) qy hb); have n1_ := qs hb; clear BK102; clear HB; have BK102 := n0_; have HB := n1_; clear n0_ n1_; (try clear hb)))
           go_meet
           case rel => exact ⟨_, (!t107), qv, H', ⟨by have := HK1.out; first | omega | exact Nat.le_refl _⟩, qk, qB⟩
         ·replace c13 := Bool.eq_false_iff.mpr c13
          subst c13
          rw [if_neg qf] at H
          by_cases c19 : ((rd_T40 l0 x19_1).f1).toList = ([] : List UInt8)
          ·rw [if_pos c19] at H
           obtain ⟨c19b0, c19b1⟩ := qe c19
           clear c19
           by_cases c20 : ((rd_T40 l0 x19_1).f0) = 2
           ·rw [if_pos c20] at H
            obtain ⟨c20b0, c20b1⟩ := qe c20
            clear c20
            have H' := Aside0.mk H
            clear H
            obtain ⟨_, _, _, _, _, _, _, _, _, _, _, _⟩ := q6 BK102.out
            go_wp2
            go_meet
            case rel => exact ⟨_, (false), qv, H', ⟨by have := HK1.out; first | omega | exact Nat.le_refl _⟩, qY, qB⟩
           ·rw [if_neg c20] at H
            obtain ⟨c20b0, c20b1⟩ := qd c20
            replace H := qi H
            obtain ⟨t108, A22, H⟩ := H
            have H' := Aside0.mk H
            clear H
            obtain ⟨_, _, _, _, _, _, _, _, _, _, _, _⟩ := q6 BK102.out
            go_wp2_with (first | (go_at_call 122; (with_reducible refine (rung_blank.calls ((rd_T40 l0 x19_1).f2.f0) ((rd_T40 l0 x19_1).f2.f1) ((rd_T40 l0 x19_1).f2.f2) _ _ ((rd_T40 l0 x19_1).f2.f3) t108 _ ?side1 ?side2 A22.out).mono ?_); (case side1 => exact Kd.C_below HR101_5.out qb); (case side2 => exact HC101_5.out); rintro e w24 ⟨rfl, hb⟩; have n0_ := Aside0.mk (blk_below (g := gb102) (o := .cells #[.int .i64 ((rd_T40 l0 x19_1).f0), .string ((rd_T40 l0 x19_1).f1), .int .i64 ((rd_T40 l0 x19_1).f2.f0), .int .i64 ((rd_T40 l0 x19_1).f2.f1), .string ((rd_T40 l0 x19_1).f2.f2), .slice A101_5 ((rd_T40 l0 x19_1).f2.f3).length c101_5] 40 (0, 0)) qy hb); have n1_ := qs hb; clear BK102; clear HB; have BK102 := n0_; have HB := n1_; clear n0_ n1_; (try clear hb)))
            go_meet
            case rel => exact ⟨_, (!t108), qv, H', ⟨by have := HK1.out; first | omega | exact Nat.le_refl _⟩, qk, qB⟩
          ·rw [if_neg c19] at H
           obtain ⟨c19b0, c19b1⟩ := qd c19
           have H' := Aside0.mk H
           clear H
           obtain ⟨_, _, _, _, _, _, _, _, _, _, _, _⟩ := q6 BK102.out
           go_wp2
           go_meet
           case rel => exact ⟨_, ((((rd_T40 l0 x19_1).f1).toList != ([] : List UInt8))), qv, H', ⟨by have := HK1.out; first | omega | exact Nat.le_refl _⟩, qY, qB⟩
        ·replace c12 := Bool.eq_false_iff.mpr c12
         subst c12
         rw [if_neg qf] at H
         have H' := Aside0.mk H
         clear H
         go_wp2
         go_meet
         case rel => exact ⟨_, (!false), qv, H', ⟨by have := HK1.out; first | omega | exact Nat.le_refl _⟩, qY, qB⟩
       case rest =>
        clear HC9
        obtain ⟨kq, x31_8, rfl, HA, HJ8, BK102, HB⟩ := hcut
        cases kq with
        | zero => exact absurd HA.out (by simp [rung_codeN.j1])
        | succ kj8 =>
         have H := HA.out
         clear HA
         simp only [rung_codeN.j1] at H
         by_cases c26 : x31_8 = true
         ·subst c26
          rw [if_pos rfl] at H
          obtain rfl := Option.some.inj H
          go_wp2
          go_ret
          exact qr
         ·replace c26 := Bool.eq_false_iff.mpr c26
          subst c26
          rw [if_neg qf] at H
          have HC27 := Aside0.mk H
          clear H
          go_upto_region 12 with (fail)
          go_cut [50] (fun v50 wc => ∃ (kq : Nat) (x50_26 : Bool), v50 = .bool x50_26 ∧ Aside0 (rung_codeN.j2 kq l1 l2 x7_1 t104 t105 l0 (l0.length : Int) x19_1 x50_26 ((rd_T40 l0 x19_1).f0) ((rd_T40 l0 x19_1).f1) ((rd_T40 l0 x19_1).f2.f0) ((rd_T40 l0 x19_1).f2.f1) ((rd_T40 l0 x19_1).f2.f2) ((rd_T40 l0 x19_1).f2.f3) = some r) ∧ Aside0 (kq ≤ kj8) ∧ Aside0 (wc.heap[gb102]? = some (.cells #[.int .i64 ((rd_T40 l0 x19_1).f0), .string ((rd_T40 l0 x19_1).f1), .int .i64 ((rd_T40 l0 x19_1).f2.f0), .int .i64 ((rd_T40 l0 x19_1).f2.f1), .string ((rd_T40 l0 x19_1).f2.f2), (.slice A101_5 ((rd_T40 l0 x19_1).f2.f3).length c101_5)] 40 (0, 0))) ∧ Aside0 (Below w.heap.size w wc))
          case first =>
           have H := HC27.out
           clear HC27
           by_cases c28 : t103 = true
           ·subst c28
            rw [if_pos rfl] at H
            replace H := qi H
            obtain ⟨t109, A29, H⟩ := H
            have H' := Aside0.mk H
            clear H
            obtain ⟨_, _, _, _, _, _, _, _, _, _, _, _⟩ := q6 BK102.out
            go_wp2_with (first | (go_at_call 61; (with_reducible refine (slices_Contains_string_string.calls kj8 _ _ l1 ((rd_T40 l0 x19_1).f1) t109 _ ?side1 ?side2 A29.out).mono ?_); (case side1 => exact qC HR1.out); (case side2 => exact HC1.out); rintro e w' ⟨rfl, ⟨nd, rfl⟩⟩))
            go_meet
            case rel => exact ⟨_, (!t109), qv, H', ⟨by have := HK1.out; have := HJ8.out; first | omega | exact Nat.le_refl _⟩, qk, qB⟩
           ·replace c28 := Bool.eq_false_iff.mpr c28
            subst c28
            rw [if_neg qf] at H
            have H' := Aside0.mk H
            clear H
            go_wp2
            go_meet
            case rel => exact ⟨_, (false), qv, H', ⟨by have := HK1.out; have := HJ8.out; first | omega | exact Nat.le_refl _⟩, qk, qB⟩
          case rest =>
           clear HC27
           obtain ⟨kq, x50_26, rfl, HA, HJ26, BK102, HB⟩ := hcut
           cases kq with
           | zero => exact absurd HA.out (by simp [rung_codeN.j2])
           | succ kj26 =>
            have H := HA.out
            clear HA
            simp only [rung_codeN.j2] at H
            have HC31 := Aside0.mk H
            clear H
            go_upto_if 50 with (fail)
            go_cut [50] (fun v50 wc => ∃ (kq : Nat) (x50_30 : Bool), v50 = .bool x50_30 ∧ Aside0 (rung_codeN.j3 kq l1 l2 x7_1 t104 t105 l0 (l0.length : Int) x19_1 x50_30 ((rd_T40 l0 x19_1).f0) ((rd_T40 l0 x19_1).f1) ((rd_T40 l0 x19_1).f2.f0) ((rd_T40 l0 x19_1).f2.f1) ((rd_T40 l0 x19_1).f2.f2) ((rd_T40 l0 x19_1).f2.f3) = some r) ∧ Aside0 (kq ≤ kj26) ∧ Aside0 (wc.heap[gb102]? = some (.cells #[.int .i64 ((rd_T40 l0 x19_1).f0), .string ((rd_T40 l0 x19_1).f1), .int .i64 ((rd_T40 l0 x19_1).f2.f0), .int .i64 ((rd_T40 l0 x19_1).f2.f1), .string ((rd_T40 l0 x19_1).f2.f2), (.slice A101_5 ((rd_T40 l0 x19_1).f2.f3).length c101_5)] 40 (0, 0))) ∧ Aside0 (Below w.heap.size w wc))
            case first =>
             have H := HC31.out
             clear HC31
             by_cases c32 : x50_26 = true
             ·subst c32
              rw [if_pos rfl] at H
              have H' := Aside0.mk H
              clear H
              go_wp2
              go_meet
              case rel => exact ⟨_, (true), qv, H', ⟨by have := HK1.out; have := HJ8.out; have := HJ26.out; first | omega | exact Nat.le_refl _⟩, qk, qB⟩
             ·replace c32 := Bool.eq_false_iff.mpr c32
              subst c32
              rw [if_neg qf] at H
              by_cases c33 : ((rd_T40 l0 x19_1).f0) = 2
              ·rw [if_pos c33] at H
               obtain ⟨c33b0, c33b1⟩ := qe c33
               clear c33
               (first | rw [c33b0] | (simp only [i64_w, i32_w]; rw [c33b0]) | skip)
               replace H := qi H
               obtain ⟨t110, A34, H⟩ := H
               have H' := Aside0.mk H
               clear H
               obtain ⟨_, _, _, _, _, _, _, _, _, _, _, _⟩ := q6 BK102.out
               go_wp2_with (first | (go_at_call 123; (with_reducible refine (rung_strangeN.calls kj26 ((rd_T40 l0 x19_1).f2.f0) ((rd_T40 l0 x19_1).f2.f1) ((rd_T40 l0 x19_1).f2.f2) _ _ ((rd_T40 l0 x19_1).f2.f3) _ _ l2 t110 _ ?side1 ?side2 ?side3 ?side4 A34.out HNL.out (by first | exact HT0.out | exact UT.below HT0.out qb)).mono ?_); (case side1 => exact qC HR101_5.out); (case side2 => exact HC101_5.out); (case side3 => exact qC HR2.out); (case side4 => exact HC2.out); rintro e w36 ⟨rfl, hb⟩; have n0_ := qn (g := gb102) hb; have n1_ := qs hb; clear BK102; clear HB; have BK102 := n0_; have HB := n1_; clear n0_ n1_; (try clear hb)))
               go_meet
               case rel => exact ⟨_, (t110), qv, H', ⟨by have := HK1.out; have := HJ8.out; have := HJ26.out; first | omega | exact Nat.le_refl _⟩, qk, qB⟩
              ·rw [if_neg c33] at H
               obtain ⟨c33b0, c33b1⟩ := qd c33
               (first | rw [c33b0] | (simp only [i64_w, i32_w]; rw [c33b0]) | skip)
               have H' := Aside0.mk H
               clear H
               obtain ⟨_, _, _, _, _, _, _, _, _, _, _, _⟩ := q6 BK102.out
               go_wp2
               go_meet
               case rel => exact ⟨_, (false), qv, H', ⟨by have := HK1.out; have := HJ8.out; have := HJ26.out; first | omega | exact Nat.le_refl _⟩, qk, qB⟩
            case rest =>
             clear HC31
             obtain ⟨kq, x50_30, rfl, HA, HJ30, BK102, HB⟩ := hcut
             cases kq with
             | zero => exact absurd HA.out (by simp [rung_codeN.j3])
             | succ kj30 =>
              have H := HA.out
              clear HA
              simp only [rung_codeN.j3] at H
              by_cases c38 : x50_30 = true
              ·subst c38
               rw [if_pos rfl] at H
               obtain rfl := Option.some.inj H
               go_wp2
               go_ret
               exact qr
              ·replace c38 := Bool.eq_false_iff.mpr c38
               subst c38
               rw [if_neg qf] at H
               have HC39 := Aside0.mk H
               clear H
               go_upto_region 15 with (fail)
               go_cut [68] (fun v68 wc => ∃ (kq : Nat) (x68_38 : Bool), v68 = .bool x68_38 ∧ Aside0 (rung_codeN.j4 kq l1 l2 x7_1 t104 t105 l0 (l0.length : Int) x19_1 x68_38 = some r) ∧ Aside0 (kq ≤ kj30) ∧ Aside0 (wc.heap[gb102]? = some (.cells #[.int .i64 ((rd_T40 l0 x19_1).f0), .string ((rd_T40 l0 x19_1).f1), .int .i64 ((rd_T40 l0 x19_1).f2.f0), .int .i64 ((rd_T40 l0 x19_1).f2.f1), .string ((rd_T40 l0 x19_1).f2.f2), (.slice A101_5 ((rd_T40 l0 x19_1).f2.f3).length c101_5)] 40 (0, 0))) ∧ Aside0 (Below w.heap.size w wc))
               case first =>
                have H := HC39.out
                clear HC39
                by_cases c40 : ((rd_T40 l0 x19_1).f0) = 2
                ·rw [if_pos c40] at H
                 obtain ⟨c40b0, c40b1⟩ := qe c40
                 clear c40
                 (first | rw [c40b0] | (simp only [i64_w, i32_w]; rw [c40b0]) | skip)
                 replace H := qi H
                 obtain ⟨t111, A41, H⟩ := H
                 have H' := Aside0.mk H
                 clear H
                 obtain ⟨_, _, _, _, _, _, _, _, _, _, _, _⟩ := q6 BK102.out
                 go_wp2_with (first | (go_at_call 29; (with_reducible refine (expr_May.calls kj30 ((rd_T40 l0 x19_1).f2.f0) ((rd_T40 l0 x19_1).f2.f1) ((rd_T40 l0 x19_1).f2.f2) _ _ ((rd_T40 l0 x19_1).f2.f3) t111 _ ?side1 ?side2 A41.out (by first | exact HT0.out | exact UT.below HT0.out qb)).mono ?_); (case side1 => exact qC HR101_5.out); (case side2 => exact HC101_5.out); rintro e w43 ⟨rfl, hb⟩; have n0_ := qn (g := gb102) hb; have n1_ := qs hb; clear BK102; clear HB; have BK102 := n0_; have HB := n1_; clear n0_ n1_; (try clear hb)))
                 go_meet
                 case rel => exact ⟨_, (!t111), qv, H', ⟨by have := HK1.out; have := HJ8.out; have := HJ26.out; have := HJ30.out; first | omega | exact Nat.le_refl _⟩, qk, qB⟩
                ·rw [if_neg c40] at H
                 obtain ⟨c40b0, c40b1⟩ := qd c40
                 (first | rw [c40b0] | (simp only [i64_w, i32_w]; rw [c40b0]) | skip)
                 have H' := Aside0.mk H
                 clear H
                 obtain ⟨_, _, _, _, _, _, _, _, _, _, _, _⟩ := q6 BK102.out
                 go_wp2
                 go_meet
                 case rel => exact ⟨_, (false), qv, H', ⟨by have := HK1.out; have := HJ8.out; have := HJ26.out; have := HJ30.out; first | omega | exact Nat.le_refl _⟩, qk, qB⟩
               case rest =>
                clear HC39
                obtain ⟨kq, x68_38, rfl, HA, HJ38, BK102, HB⟩ := hcut
                cases kq with
                | zero => exact absurd HA.out (by simp [rung_codeN.j4])
                | succ kj38 =>
                 have H := HA.out
                 clear HA
                 simp only [rung_codeN.j4] at H
                 by_cases c45 : x68_38 = true
                 ·subst c45
                  rw [if_pos rfl] at H
                  obtain rfl := Option.some.inj H
                  go_wp2
                  go_ret
                  exact qr
                 ·replace c45 := Bool.eq_false_iff.mpr c45
                  subst c45
                  rw [if_neg qf] at H
                  by_cases c46 : x7_1 < t104
                  ·rw [if_pos c46] at H
                   have c46b0 : decide (x7_1 < t104) = true := decide_eq_true c46
                   clear c46
                   obtain rfl := Option.some.inj H
                   go_wp2
                   go_ret
                   exact qr
                  ·rw [if_neg c46] at H
                   have c46b0 : decide (x7_1 < t104) = false := decide_eq_false c46
                   clear c46
                   by_cases c47 : (wrap64 ((wrap64 (x7_1 - t104)) + t105)) > 8
                   ·rw [if_pos c47] at H
                    have c47b0 : decide (8 < (wrap64 ((wrap64 (x7_1 - t104)) + t105))) = true := decide_eq_true c47
                    clear c47
                    obtain rfl := Option.some.inj H
                    go_wp2
                    go_ret
                    exact qr
                   ·rw [if_neg c47] at H
                    have c47b0 : decide (8 < (wrap64 ((wrap64 (x7_1 - t104)) + t105))) = false := decide_eq_false c47
                    clear c47
                    have H' := Aside0.mk H
                    clear H
                    go_wp2
                    go_roundg kj38
                    case measure => have := HK1.out; have := HJ8.out; have := HJ26.out; have := HJ30.out; have := HJ38.out; omega
                    case rel => exact ⟨(wrap64 (x7_1 + (wrap64 (t105 - t104)))), (wrap64 (x19_1 + 1)), qv, qv, H', ⟨by have := HK1.out; have := HJ8.out; have := HJ26.out; have := HJ30.out; have := HJ38.out; omega⟩, qB⟩
      ·rw [if_neg c7] at H
       exact absurd H (by simp)
     ·rw [if_neg c6] at H
      exact absurd H (by simp)
    ·rw [if_neg c5] at H
     have c5b0 : decide (x19_1 < (l0.length : Int)) = false := decide_eq_false c5
     clear c5
     by_cases c48 : x7_1 = 1
     ·rw [if_pos c48] at H
      obtain ⟨c48b0, c48b1⟩ := qe c48
      clear c48
      obtain rfl := Option.some.inj H
      go_wp2
      go_ret
      exact qr
     ·rw [if_neg c48] at H
      obtain ⟨c48b0, c48b1⟩ := qd c48
      obtain rfl := Option.some.inj H
      go_wp2
      go_ret
      exact qr
mutual
def rung_checkN.l0 : Nat → List ByteArray → List ByteArray → List (S43) → Int → Int → Option (Int)
  | 0, _, _, _, _, _ => none
  | k + 1, x1, x7, x16, x17, x18 => if x18 < x17 then (if 0 ≤ x18 then (if x18 < (x16.length : Int) then (if ((rd_T43 x16 x18).f0) < 0 then (rung_checkN.j1 k x1 x7 x16 x17 x18 true ((rd_T43 x16 x18).f0) ((rd_T43 x16 x18).f1) ((rd_T43 x16 x18).f2)) else (if ((rd_T43 x16 x18).f0) > 4 then (rung_checkN.j1 k x1 x7 x16 x17 x18 true ((rd_T43 x16 x18).f0) ((rd_T43 x16 x18).f1) ((rd_T43 x16 x18).f2)) else ((lex_Name.f ((rd_T43 x16 x18).f1)).bind fun t106 => (rung_checkN.j1 k x1 x7 x16 x17 x18 (!t106) ((rd_T43 x16 x18).f0) ((rd_T43 x16 x18).f1) ((rd_T43 x16 x18).f2))))) else (none)) else (none)) else (some 0)
def rung_checkN.j1 : Nat → List ByteArray → List ByteArray → List (S43) → Int → Int → Bool → Int → ByteArray → List (S40) → Option (Int)
  | 0, _, _, _, _, _, _, _, _, _ => none
  | k + 1, x1, x7, x16, x17, x18, x35, x106000, x106001, x106002 => if x35 = true then (some 1) else (if x106000 ≥ 3 then (rung_checkN.j2 k x1 x7 x16 x17 x18 (!true) x106000 x106001 x106002) else (rung_checkN.j2 k x1 x7 x16 x17 x18 false x106000 x106001 x106002))
def rung_checkN.j2 : Nat → List ByteArray → List ByteArray → List (S43) → Int → Int → Bool → Int → ByteArray → List (S40) → Option (Int)
  | 0, _, _, _, _, _, _, _, _, _ => none
  | k + 1, x1, x7, x16, x17, x18, x45, x106000, x106001, x106002 => if x45 = true then (some 21) else ((rung_codeN.f k x106002 x7 x1).bind fun t107 => (if t107 = 0 then (rung_checkN.l0 k x1 x7 x16 x17 (wrap64 (x18 + 1))) else (some t107)))
end
def rung_checkN.f (k : Nat) (l0 : List (S43)) (l1 : List ByteArray) (l2 : List ByteArray) : Option (Int) := if (l0.length : Int) > 12 then (some 2) else ((rung_Bits.f k l0).bind fun t101 => (rung_checkN.l0 k l1 t101 l0 (l0.length : Int) 0))
theorem rung_checkN.mono_l : ∀ k, (∀ y0 y1 y2 y3 y4, LeO (rung_checkN.l0 k y0 y1 y2 y3 y4) (rung_checkN.l0 (k + 1) y0 y1 y2 y3 y4)) ∧ (∀ y0 y1 y2 y3 y4 y5 y6 y7 y8, LeO (rung_checkN.j1 k y0 y1 y2 y3 y4 y5 y6 y7 y8) (rung_checkN.j1 (k + 1) y0 y1 y2 y3 y4 y5 y6 y7 y8)) ∧ (∀ y0 y1 y2 y3 y4 y5 y6 y7 y8, LeO (rung_checkN.j2 k y0 y1 y2 y3 y4 y5 y6 y7 y8) (rung_checkN.j2 (k + 1) y0 y1 y2 y3 y4 y5 y6 y7 y8))
  | 0 => ⟨fun _ _ _ _ _ r h => by simp [rung_checkN.l0] at h, fun _ _ _ _ _ _ _ _ _ r h => by simp [rung_checkN.j1] at h, fun _ _ _ _ _ _ _ _ _ r h => by simp [rung_checkN.j2] at h⟩
  | k + 1 => by
    obtain ⟨ih0, ih1, ih2⟩ := rung_checkN.mono_l k
    refine ⟨?_, ?_, ?_⟩
    · intro y0 y1 y2 y3 y4
      unfold rung_checkN.l0
      repeat' first
      | (with_reducible exact ih0 _ _ _ _ _)
      | (with_reducible exact ih1 _ _ _ _ _ _ _ _ _)
      | (with_reducible exact ih2 _ _ _ _ _ _ _ _ _)
      | (with_reducible exact rung_Bits.mono _ _)
      | (with_reducible exact rung_codeN.mono _ _ _ _)
      | (with_reducible exact LeO.refl _)
      | (with_reducible exact LeO.none _)
      | (with_reducible refine LeO.ite ?_ ?_)
      | (with_reducible refine LeO.bind ?_ (fun _ => ?_))
      | exact ih0 _ _ _ _ _
      | exact ih1 _ _ _ _ _ _ _ _ _
      | exact ih2 _ _ _ _ _ _ _ _ _
      | exact rung_Bits.mono _ _
      | exact rung_codeN.mono _ _ _ _
      | exact LeO.none _
      | refine LeO.ite ?_ ?_
      | refine LeO.bind ?_ (fun _ => ?_)
    · intro y0 y1 y2 y3 y4 y5 y6 y7 y8
      unfold rung_checkN.j1
      repeat' first
      | (with_reducible exact ih0 _ _ _ _ _)
      | (with_reducible exact ih1 _ _ _ _ _ _ _ _ _)
      | (with_reducible exact ih2 _ _ _ _ _ _ _ _ _)
      | (with_reducible exact rung_Bits.mono _ _)
      | (with_reducible exact rung_codeN.mono _ _ _ _)
      | (with_reducible exact LeO.refl _)
      | (with_reducible exact LeO.none _)
      | (with_reducible refine LeO.ite ?_ ?_)
      | (with_reducible refine LeO.bind ?_ (fun _ => ?_))
      | exact ih0 _ _ _ _ _
      | exact ih1 _ _ _ _ _ _ _ _ _
      | exact ih2 _ _ _ _ _ _ _ _ _
      | exact rung_Bits.mono _ _
      | exact rung_codeN.mono _ _ _ _
      | exact LeO.none _
      | refine LeO.ite ?_ ?_
      | refine LeO.bind ?_ (fun _ => ?_)
    · intro y0 y1 y2 y3 y4 y5 y6 y7 y8
      unfold rung_checkN.j2
      repeat' first
      | (with_reducible exact ih0 _ _ _ _ _)
      | (with_reducible exact ih1 _ _ _ _ _ _ _ _ _)
      | (with_reducible exact ih2 _ _ _ _ _ _ _ _ _)
      | (with_reducible exact rung_Bits.mono _ _)
      | (with_reducible exact rung_codeN.mono _ _ _ _)
      | (with_reducible exact LeO.refl _)
      | (with_reducible exact LeO.none _)
      | (with_reducible refine LeO.ite ?_ ?_)
      | (with_reducible refine LeO.bind ?_ (fun _ => ?_))
      | exact ih0 _ _ _ _ _
      | exact ih1 _ _ _ _ _ _ _ _ _
      | exact ih2 _ _ _ _ _ _ _ _ _
      | exact rung_Bits.mono _ _
      | exact rung_codeN.mono _ _ _ _
      | exact LeO.none _
      | refine LeO.ite ?_ ?_
      | refine LeO.bind ?_ (fun _ => ?_)
theorem rung_checkN.mono : ∀ a0 a1 a2 k, LeO (rung_checkN.f k a0 a1 a2) (rung_checkN.f (k + 1) a0 a1 a2) := by
  intro a0 a1 a2 k
  obtain ⟨ih0, ih1, ih2⟩ := rung_checkN.mono_l k
  unfold rung_checkN.f
  repeat' first
      | (with_reducible exact ih0 _ _ _ _ _)
      | (with_reducible exact ih1 _ _ _ _ _ _ _ _ _)
      | (with_reducible exact ih2 _ _ _ _ _ _ _ _ _)
      | (with_reducible exact rung_Bits.mono _ _)
      | (with_reducible exact rung_codeN.mono _ _ _ _)
      | (with_reducible exact LeO.refl _)
      | (with_reducible exact LeO.none _)
      | (with_reducible refine LeO.ite ?_ ?_)
      | (with_reducible refine LeO.bind ?_ (fun _ => ?_))
      | exact ih0 _ _ _ _ _
      | exact ih1 _ _ _ _ _ _ _ _ _
      | exact ih2 _ _ _ _ _ _ _ _ _
      | exact rung_Bits.mono _ _
      | exact rung_codeN.mono _ _ _ _
      | exact LeO.none _
      | refine LeO.ite ?_ ?_
      | refine LeO.bind ?_ (fun _ => ?_)
set_option maxHeartbeats 8000000 in
set_option maxRecDepth 100000 in
theorem rung_checkN.calls (k : Nat) (A0 : Option Addr) (c0 : Nat) (l0 : List (S43)) (A1 : Option Addr) (c1 : Nat) (l1 : List ByteArray) (l2 : List ByteArray) (r : Int) (w : World) (hr0 : Kd.C k43 w A0 l0.length l0) (hc0 : l0.length ≤ c0) (hr1 : Kd.C Kd.string w A1 l1.length l1) (hc1 : l1.length ≤ c1) (h : rung_checkN.f k l0 l1 l2 = some r) (hN : A1 = none) (hT : UT w) :
  Calls Tryd.prog 59 #[.slice A0 l0.length c0, .slice A1 l1.length c1, .func (.func 66) #[] #[]] w fun e w' => e = .returned (.int .i64 r) ∧ Below w.heap.size w w' := by
 have HT0 := Aside0.mk hT
 clear hT
 have HNL := Aside0.mk hN
 clear hN
 have hu43 := Tryd.underlying43
 have HR0 := Aside0.mk hr0
 have HC0 := Aside0.mk hc0
 clear hr0 hc0
 have HR1 := Aside0.mk hr1
 have HC1 := Aside0.mk hc1
 clear hr1 hc1
 have HB := Aside0.mk (Below.refl w.heap.size w)
 have H : (if (l0.length : Int) > 12 then (some 2) else ((rung_Bits.f k l0).bind fun t101 => (rung_checkN.l0 k l1 t101 l0 (l0.length : Int) 0))) = some r := h
 clear h
 by_cases c4 : (l0.length : Int) > 12
 ·rw [if_pos c4] at H
  have c4b0 : decide (12 < (l0.length : Int)) = true := decide_eq_true c4
  have c4b1 : decide (12 < l0.length) = true := decide_eq_true (by omega)
  clear c4
  obtain rfl := Option.some.inj H
  go_enter Tryd.func59, Tryd.ntmps59
  go_wp2_with (first | (go_at_call 66; (with_reducible refine (all_lit _ _).mono ?_); rintro e w' ⟨rfl, ⟨nd, rfl⟩⟩))
  go_ret
  exact qr
 ·rw [if_neg c4] at H
  have c4b0 : decide (12 < (l0.length : Int)) = false := decide_eq_false c4
  have c4b1 : decide (12 < l0.length) = false := decide_eq_false (by omega)
  clear c4
  replace H := qi H
  obtain ⟨t101, A5, H⟩ := H
  have H' := Aside0.mk H
  clear H
  go_enter Tryd.func59, Tryd.ntmps59
  go_wp2_with (first | (go_at_call 66; (with_reducible refine (all_lit _ _).mono ?_); rintro e w' ⟨rfl, ⟨nd, rfl⟩⟩) | ((with_reducible refine gate_callee (f := 23) rfl ?_); refine goesL_ (some 15) rfl rfl Tryd.func23 (by kernel_rfl) rfl #[.slice A0 l0.length c0] rfl qm ?_; (with_reducible refine (rung_Bits.calls k _ _ l0 t101 _ ?side1 ?side2 A5.out).mono ?_); (case side1 => repeat (first | exact HR0.out | (with_reducible refine Kd.C_alloc ?_ _) | (with_reducible refine Kd.C_drewN ?_ _) | (with_reducible refine Kd.C_drew ?_))); (case side2 => exact HC0.out); rintro e w6 ⟨v102, rfl, ho0, hb⟩; refine ⟨_, rfl, ?_⟩; have n0_ := Aside0.mk (Kd.R_lower ho0 (below_size qb)); have n1_ := qs hb; clear HB; have HO103 := n0_; have HB := n1_; clear n0_ n1_; (try clear hb); (try clear ho0)))
  go_loopg [18] k (fun kq v18 w' => ∃ (x18_1 : Int), v18 = .int .i64 x18_1 ∧ Aside0 (rung_checkN.l0 kq l1 t101 l0 (l0.length : Int) x18_1 = some r) ∧ Aside0 (kq ≤ k) ∧ Aside0 (Kd.R Kd.string 9 w' w.heap.size (fun _ => True) v102 t101) ∧ Aside0 (Below w.heap.size w w'))
  case atStart => exact ⟨(0), qv, H', ⟨Nat.le_refl _⟩, ⟨by (with_reducible repeat (first | apply Kd.R_alloc | apply Kd.R_drewN | apply Kd.R_drew)); exact HO103.out⟩, qB⟩
  case round =>
   clear H'
   obtain ⟨x18_1, rfl, HA, HK1, HO_7, HB⟩ := hrel
   cases gk with
   | zero => exact absurd HA.out (by simp [rung_checkN.l0])
   | succ k1 =>
    have H := HA.out
    clear HA
    simp only [rung_checkN.l0] at H
    by_cases c7 : x18_1 < (l0.length : Int)
    ·rw [if_pos c7] at H
     have c7b0 : decide (x18_1 < (l0.length : Int)) = true := decide_eq_true c7
     clear c7
     by_cases c8 : 0 ≤ x18_1
     ·rw [if_pos c8] at H
      have c8b0 : decide (0 ≤ x18_1) = true := decide_eq_true c8
      clear c8
      by_cases c9 : x18_1 < (l0.length : Int)
      ·rw [if_pos c9] at H
       have c9b0 : decide (x18_1 < (l0.length : Int)) = true := decide_eq_true c9
       clear c9
       have HC10 := Aside0.mk H
       clear H
       have p104 : 0 ≤ (x18_1 : Int) := qa
       have q104 : x18_1 < (l0.length : Int) := qa
       obtain ⟨ad104, A104_2, c104_2, e104, hx104_0, hx104_1, hx104_2, hl104_2, hi104_2⟩ := at_T43 HR0.out x18_1 p104 q104
       cases e104
       replace hx104_0 := qc HB.out hx104_0
       replace hx104_1 := qc HB.out hx104_1
       replace hx104_2 := qc HB.out hx104_2
       have HR104_2 := Aside0.mk hi104_2
       have HC104_2 := Aside0.mk hl104_2
       clear hi104_2 hl104_2
       replace p104 := eq_true p104
       replace q104 := eq_true q104
       go_upto_region 7 with (first | ((with_reducible refine gate_dst (N := 9) rfl ?_); refine box_event ?hg (N := 9) ?hd (cs := #[.int .i64 0, .string (⟨#[]⟩ : ByteArray), .slice none 0 0]) (t := 43) ?hr ?_; (case hd => rfl); (case hg => rfl); (case hr => first | (go_simp; done) | (go_simp; rfl)); intro gb105 hg w11 hbox hb; have n0_ := Aside0.mk (Kd.R_below (by (with_reducible repeat (first | apply Kd.R_alloc | apply Kd.R_drewN | apply Kd.R_drew)); exact HO_7.out) hb); have n1_ := qs hb; have n2_ := Aside0.mk (hbox); have n3_ := Aside0.mk ((by rw [hg]; exact (below_size qb) : w.heap.size ≤ gb105)); have n4_ := Aside0.mk ((by rw [hg]; exact (below_size qb) : w.heap.size ≤ gb105)); clear HO_7; clear HB; have HO_7 := n0_; have HB := n1_; have BK105 := n2_; have GW105 := n3_; have GE105 := n4_; clear n0_ n1_ n2_ n3_ n4_; clear hb hbox hg; obtain ⟨_, _, _, _, _, _⟩ := q3 BK105.out))
       (try simp only [Act.put, List.setIfInBounds_toArray, List.set_cons_zero, List.set_cons_succ])
       go_cut [35] (fun v35 wc => ∃ (kq : Nat) (x35_9 : Bool), v35 = .bool x35_9 ∧ Aside0 (rung_checkN.j1 kq l1 t101 l0 (l0.length : Int) x18_1 x35_9 ((rd_T43 l0 x18_1).f0) ((rd_T43 l0 x18_1).f1) ((rd_T43 l0 x18_1).f2) = some r) ∧ Aside0 (kq ≤ k1) ∧ Aside0 (Kd.R Kd.string 9 wc w.heap.size (fun _ => True) v102 t101) ∧ Aside0 (wc.heap[gb105]? = some (.cells #[.int .i64 ((rd_T43 l0 x18_1).f0), .string ((rd_T43 l0 x18_1).f1), (.slice A104_2 ((rd_T43 l0 x18_1).f2).length c104_2)] 43 (0, 0))) ∧ Aside0 (Below w.heap.size w wc))
       case first =>
        have H := HC10.out
        clear HC10
        by_cases c13 : ((rd_T43 l0 x18_1).f0) < 0
        ·rw [if_pos c13] at H
         have c13b0 : decide (((rd_T43 l0 x18_1).f0) < 0) = true := decide_eq_true c13
         clear c13
         (first | rw [c13b0] | (simp only [i64_w, i32_w]; rw [c13b0]) | skip)
         have H' := Aside0.mk H
         clear H
         obtain ⟨_, _, _, _, _, _⟩ := q3 BK105.out
         go_wp2_with (first | (go_at_call 66; (with_reducible refine (all_lit _ _).mono ?_); rintro e w' ⟨rfl, ⟨nd, rfl⟩⟩))
         go_meet
         case rel => exact ⟨_, (true), qv, H', ⟨by have := HK1.out; first | omega | exact Nat.le_refl _⟩, ⟨by (with_reducible repeat (first | apply Kd.R_alloc | apply Kd.R_drewN | apply Kd.R_drew)); exact Kd.R_mono (Kd.R_far (p := ⟨gb105, 2, none⟩) (Kd.R_far (p := ⟨gb105, 1, none⟩) (Kd.R_far (p := ⟨gb105, 0, none⟩) (Kd.R_types HO_7.out BK105.out (by decide)) (fun _ hk => hk.2) (.int .i64 ((rd_T43 l0 x18_1).f0))) (fun _ hk => hk.2) (.string ((rd_T43 l0 x18_1).f1))) (fun _ hk => hk.2) (.slice A104_2 ((rd_T43 l0 x18_1).f2).length c104_2)) (fun _ hk => trivial)⟩, qY, qB⟩
        ·rw [if_neg c13] at H
         have c13b0 : decide (((rd_T43 l0 x18_1).f0) < 0) = false := decide_eq_false c13
         clear c13
         (first | rw [c13b0] | (simp only [i64_w, i32_w]; rw [c13b0]) | skip)
         by_cases c15 : ((rd_T43 l0 x18_1).f0) > 4
         ·rw [if_pos c15] at H
          have c15b0 : decide (4 < ((rd_T43 l0 x18_1).f0)) = true := decide_eq_true c15
          clear c15
          have H' := Aside0.mk H
          clear H
          obtain ⟨_, _, _, _, _, _⟩ := q3 BK105.out
          go_wp2_with (first | (go_at_call 66; (with_reducible refine (all_lit _ _).mono ?_); rintro e w' ⟨rfl, ⟨nd, rfl⟩⟩))
          go_meet
          case rel => exact ⟨_, (true), qv, H', ⟨by have := HK1.out; first | omega | exact Nat.le_refl _⟩, ⟨by (with_reducible repeat (first | apply Kd.R_alloc | apply Kd.R_drewN | apply Kd.R_drew)); exact Kd.R_mono (Kd.R_far (p := ⟨gb105, 2, none⟩) (Kd.R_far (p := ⟨gb105, 1, none⟩) (Kd.R_far (p := ⟨gb105, 0, none⟩) (Kd.R_types HO_7.out BK105.out (by decide)) (fun _ hk => hk.2) (.int .i64 ((rd_T43 l0 x18_1).f0))) (fun _ hk => hk.2) (.string ((rd_T43 l0 x18_1).f1))) (fun _ hk => hk.2) (.slice A104_2 ((rd_T43 l0 x18_1).f2).length c104_2)) (fun _ hk => trivial)⟩, qY, qB⟩
         ·rw [if_neg c15] at H
          have c15b0 : decide (4 < ((rd_T43 l0 x18_1).f0)) = false := decide_eq_false c15
          clear c15
          replace H := qi H
          obtain ⟨t106, A17, H⟩ := H
          have H' := Aside0.mk H
          clear H
          obtain ⟨_, _, _, _, _, _⟩ := q3 BK105.out
          go_wp2_with (first | (go_at_call 66; (with_reducible refine (all_lit _ _).mono ?_); rintro e w' ⟨rfl, ⟨nd, rfl⟩⟩) | (go_at_call 91; (with_reducible refine (lex_Name.calls ((rd_T43 l0 x18_1).f1) t106 _ A17.out (by first | exact HT0.out | exact UT.below HT0.out qb)).mono ?_); rintro e w19 ⟨rfl, hb⟩; have n0_ := Aside0.mk (Kd.R_below (by (with_reducible repeat (first | apply Kd.R_alloc | apply Kd.R_drewN | apply Kd.R_drew)); exact (Kd.R_mono (Kd.R_far (p := ⟨gb105, 2, none⟩) (Kd.R_far (p := ⟨gb105, 1, none⟩) (Kd.R_far (p := ⟨gb105, 0, none⟩) (Kd.R_types HO_7.out BK105.out (by decide)) (fun _ hk => hk.2) (.int .i64 ((rd_T43 l0 x18_1).f0))) (fun _ hk => hk.2) (.string ((rd_T43 l0 x18_1).f1))) (fun _ hk => hk.2) (.slice A104_2 ((rd_T43 l0 x18_1).f2).length c104_2)) (fun _ h_ => h_.1))) hb); have n1_ := Aside0.mk (blk_below (g := gb105) (o := .cells #[.int .i64 ((rd_T43 l0 x18_1).f0), .string ((rd_T43 l0 x18_1).f1), .slice A104_2 ((rd_T43 l0 x18_1).f2).length c104_2] 43 (0, 0)) qy hb); have n2_ := qs hb; clear HO_7; clear BK105; clear HB; have HO_7 := n0_; have BK105 := n1_; have HB := n2_; clear n0_ n1_ n2_; (try clear hb)))
          go_meet
          case rel => exact ⟨_, (!t106), qv, H', ⟨by have := HK1.out; first | omega | exact Nat.le_refl _⟩, ⟨by (with_reducible repeat (first | apply Kd.R_alloc | apply Kd.R_drewN | apply Kd.R_drew)); exact HO_7.out⟩, qk, qB⟩
       case rest =>
        clear HC10
        obtain ⟨kq, x35_9, rfl, HA, HJ9, HO_7, BK105, HB⟩ := hcut
        cases kq with
        | zero => exact absurd HA.out (by simp [rung_checkN.j1])
        | succ kj9 =>
         have H := HA.out
         clear HA
         simp only [rung_checkN.j1] at H
         by_cases c20 : x35_9 = true
         ·subst c20
          rw [if_pos rfl] at H
          obtain rfl := Option.some.inj H
          go_wp2_with (first | (go_at_call 66; (with_reducible refine (all_lit _ _).mono ?_); rintro e w' ⟨rfl, ⟨nd, rfl⟩⟩))
          go_ret
          exact qr
         ·replace c20 := Bool.eq_false_iff.mpr c20
          subst c20
          rw [if_neg qf] at H
          have HC21 := Aside0.mk H
          clear H
          go_upto_region 9 with (fail)
          go_cut [45] (fun v45 wc => ∃ (kq : Nat) (x45_20 : Bool), v45 = .bool x45_20 ∧ Aside0 (rung_checkN.j2 kq l1 t101 l0 (l0.length : Int) x18_1 x45_20 ((rd_T43 l0 x18_1).f0) ((rd_T43 l0 x18_1).f1) ((rd_T43 l0 x18_1).f2) = some r) ∧ Aside0 (kq ≤ kj9) ∧ Aside0 (Kd.R Kd.string 9 wc w.heap.size (fun _ => True) v102 t101) ∧ Aside0 (wc.heap[gb105]? = some (.cells #[.int .i64 ((rd_T43 l0 x18_1).f0), .string ((rd_T43 l0 x18_1).f1), (.slice A104_2 ((rd_T43 l0 x18_1).f2).length c104_2)] 43 (0, 0))) ∧ Aside0 (Below w.heap.size w wc))
          case first =>
           have H := HC21.out
           clear HC21
           by_cases c22 : ((rd_T43 l0 x18_1).f0) ≥ 3
           ·rw [if_pos c22] at H
            have c22b0 : decide (3 ≤ ((rd_T43 l0 x18_1).f0)) = true := decide_eq_true c22
            clear c22
            (first | rw [c22b0] | (simp only [i64_w, i32_w]; rw [c22b0]) | skip)
            have H' := Aside0.mk H
            clear H
            obtain ⟨_, _, _, _, _, _⟩ := q3 BK105.out
            go_wp2_with (first | (go_at_call 66; (with_reducible refine (all_lit _ _).mono ?_); rintro e w' ⟨rfl, ⟨nd, rfl⟩⟩))
            go_meet
            case rel => exact ⟨_, (!true), qv, H', ⟨by have := HK1.out; have := HJ9.out; first | omega | exact Nat.le_refl _⟩, ⟨by (with_reducible repeat (first | apply Kd.R_alloc | apply Kd.R_drewN | apply Kd.R_drew)); exact HO_7.out⟩, qk, qB⟩
           ·rw [if_neg c22] at H
            have c22b0 : decide (3 ≤ ((rd_T43 l0 x18_1).f0)) = false := decide_eq_false c22
            clear c22
            (first | rw [c22b0] | (simp only [i64_w, i32_w]; rw [c22b0]) | skip)
            have H' := Aside0.mk H
            clear H
            obtain ⟨_, _, _, _, _, _⟩ := q3 BK105.out
            go_wp2_with (first | (go_at_call 66; (with_reducible refine (all_lit _ _).mono ?_); rintro e w' ⟨rfl, ⟨nd, rfl⟩⟩))
            go_meet
            case rel => exact ⟨_, (false), qv, H', ⟨by have := HK1.out; have := HJ9.out; first | omega | exact Nat.le_refl _⟩, ⟨by (with_reducible repeat (first | apply Kd.R_alloc | apply Kd.R_drewN | apply Kd.R_drew)); exact HO_7.out⟩, qk, qB⟩
          case rest =>
           clear HC21
           obtain ⟨kq, x45_20, rfl, HA, HJ20, HO_7, BK105, HB⟩ := hcut
           cases kq with
           | zero => exact absurd HA.out (by simp [rung_checkN.j2])
           | succ kj20 =>
            have H := HA.out
            clear HA
            simp only [rung_checkN.j2] at H
            by_cases c25 : x45_20 = true
            ·subst c25
             rw [if_pos rfl] at H
             obtain rfl := Option.some.inj H
             go_wp2_with (first | (go_at_call 66; (with_reducible refine (all_lit _ _).mono ?_); rintro e w' ⟨rfl, ⟨nd, rfl⟩⟩))
             go_ret
             exact qr
            ·replace c25 := Bool.eq_false_iff.mpr c25
             subst c25
             rw [if_neg qf] at H
             replace H := qi H
             obtain ⟨t107, A26, H⟩ := H
             by_cases c27 : t107 = 0
             ·rw [if_pos c27] at H
              obtain ⟨c27b0, c27b1⟩ := qe c27
              clear c27
              have H' := Aside0.mk H
              clear H
              obtain ⟨_, _, _, _, _, _⟩ := q3 BK105.out
              obtain ⟨Ao29, co29, eo29⟩ := Kd.R_slice HO_7.out
              subst eo29
              go_wp2_with (first | (go_at_call 66; (with_reducible refine (all_lit _ _).mono ?_); rintro e w' ⟨rfl, ⟨nd, rfl⟩⟩) | ((with_reducible refine gate_callee (f := 92) rfl ?_); refine goesL_ (some 50) rfl rfl Tryd.func92 (by kernel_rfl) rfl #[.slice A104_2 ((rd_T43 l0 x18_1).f2).length c104_2, .slice Ao29 t101.length co29, .slice A1 l1.length c1] rfl qm ?_; (with_reducible refine (rung_codeN.calls kj20 _ _ ((rd_T43 l0 x18_1).f2) _ _ t101 _ _ l1 t107 _ ?side1 ?side2 ?side3 ?side4 ?side5 ?side6 A26.out HNL.out (by first | exact HT0.out | exact UT.below HT0.out qb)).mono ?_); (case side1 => exact qC HR104_2.out); (case side2 => exact HC104_2.out); (case side3 => repeat (first | exact (Kd.R_reads' HO_7.out).2.2 | (with_reducible refine Kd.C_alloc ?_ _) | (with_reducible refine Kd.C_drewN ?_ _) | (with_reducible refine Kd.C_drew ?_))); (case side4 => exact (Kd.R_reads' HO_7.out).2.1); (case side5 => exact qC HR1.out); (case side6 => exact HC1.out); rintro e w30 ⟨rfl, hb⟩; refine ⟨_, rfl, ?_⟩; have n0_ := Aside0.mk (Kd.R_below (by (with_reducible repeat (first | apply Kd.R_alloc | apply Kd.R_drewN | apply Kd.R_drew)); exact HO_7.out) hb); have n1_ := qn (g := gb105) hb; have n2_ := qs hb; clear HO_7; clear BK105; clear HB; have HO_7 := n0_; have BK105 := n1_; have HB := n2_; clear n0_ n1_ n2_; (try clear hb)))
              go_roundg kj20
              case measure => have := HK1.out; have := HJ9.out; have := HJ20.out; omega
              case rel => exact ⟨(wrap64 (x18_1 + 1)), qv, H', ⟨by have := HK1.out; have := HJ9.out; have := HJ20.out; omega⟩, ⟨by (with_reducible repeat (first | apply Kd.R_alloc | apply Kd.R_drewN | apply Kd.R_drew)); exact HO_7.out⟩, qB⟩
             ·rw [if_neg c27] at H
              obtain ⟨c27b0, c27b1⟩ := qd c27
              obtain rfl := Option.some.inj H
              obtain ⟨_, _, _, _, _, _⟩ := q3 BK105.out
              obtain ⟨Ao32, co32, eo32⟩ := Kd.R_slice HO_7.out
              subst eo32
              go_wp2_with (first | (go_at_call 66; (with_reducible refine (all_lit _ _).mono ?_); rintro e w' ⟨rfl, ⟨nd, rfl⟩⟩) | ((with_reducible refine gate_callee (f := 92) rfl ?_); refine goesL_ (some 50) rfl rfl Tryd.func92 (by kernel_rfl) rfl #[.slice A104_2 ((rd_T43 l0 x18_1).f2).length c104_2, .slice Ao32 t101.length co32, .slice A1 l1.length c1] rfl qm ?_; (with_reducible refine (rung_codeN.calls kj20 _ _ ((rd_T43 l0 x18_1).f2) _ _ t101 _ _ l1 t107 _ ?side1 ?side2 ?side3 ?side4 ?side5 ?side6 A26.out HNL.out (by first | exact HT0.out | exact UT.below HT0.out qb)).mono ?_); (case side1 => exact qC HR104_2.out); (case side2 => exact HC104_2.out); (case side3 => repeat (first | exact (Kd.R_reads' HO_7.out).2.2 | (with_reducible refine Kd.C_alloc ?_ _) | (with_reducible refine Kd.C_drewN ?_ _) | (with_reducible refine Kd.C_drew ?_))); (case side4 => exact (Kd.R_reads' HO_7.out).2.1); (case side5 => exact qC HR1.out); (case side6 => exact HC1.out); rintro e w33 ⟨rfl, hb⟩; refine ⟨_, rfl, ?_⟩; have n0_ := Aside0.mk (Kd.R_below (by (with_reducible repeat (first | apply Kd.R_alloc | apply Kd.R_drewN | apply Kd.R_drew)); exact HO_7.out) hb); have n1_ := qn (g := gb105) hb; have n2_ := qs hb; clear HO_7; clear BK105; clear HB; have HO_7 := n0_; have BK105 := n1_; have HB := n2_; clear n0_ n1_ n2_; (try clear hb)))
              go_ret
              exact qr
      ·rw [if_neg c9] at H
       exact absurd H (by simp)
     ·rw [if_neg c8] at H
      exact absurd H (by simp)
    ·rw [if_neg c7] at H
     have c7b0 : decide (x18_1 < (l0.length : Int)) = false := decide_eq_false c7
     clear c7
     obtain rfl := Option.some.inj H
     go_wp2_with (first | (go_at_call 66; (with_reducible refine (all_lit _ _).mono ?_); rintro e w' ⟨rfl, ⟨nd, rfl⟩⟩))
     go_ret
     exact qr
end Go.Proofs.YtiaccdaeomaogaaDoor.F
namespace Go.Proofs.YtiaccdaeomaogaaDoor.F
open Go.RowKit Go.Proofs.YtiaccdaeomaogaaDoorW.PrintWords Go.Proofs.YtiaccdaeomaogaaDoorW.PrintLast Go.Proofs.YtiaccdaeomaogaaDoorW.PrintMore
set_option linter.unusedVariables false
set_option linter.unusedSimpArgs false
section
variable {W w w1 : World} {g : Nat} {nm : List ByteArray} {bs : List Bool} {en : List S69} {st : List Bool} {AN : Option Addr} {cN : Nat} {AB : Option Addr} {cB : Nat} {AE : Option Addr} {cE : Nat} {AS : Option Addr} {cS : Nat}
theorem R_keepT {base : Nat} {v : Value} {xs : List ByteArray} {ok : Nat → Prop} {cs : Array Value} (h : Kd.R Kd.string 9 w base ok v xs) (hk : KeepT w w1 g) (hg : w.heap[g]? = some (.cells cs 105 (0, 0))) : Kd.R Kd.string 9 w1 base ok v xs := by
 refine Kd.R_reok rfl (Kd.R_step (Kd.R_tight rfl h) (fun k hk2 hlt => ?_)) h.1
 obtain ⟨cells, hc⟩ := own_typed (Kd.own_of_R h) k hk2.symm
 rw [hc]
 refine hk.2 k _ (fun e => ?_) hc (fun cells' e => ?_)
 ·subst e
  rw [hc] at hg
  injection hg with hg
  injection hg with _ hg _
  cases hg
 ·injection e with _ e _
  cases e
theorem blk_keepT {b : Nat} {t : Nat} {cs cs' : Array Value} (h : w.heap[b]? = some (.cells cs t (0, 0))) (hk : KeepT w w1 g) (ht : t ≠ 4) (hg : w.heap[g]? = some (.cells cs' 105 (0, 0))) (htg : t ≠ 105) : w1.heap[b]? = some (.cells cs t (0, 0)) := by
 refine hk.2 b _ (fun e => ?_) h (fun cells' e => ?_)
 ·subst e
  rw [h] at hg
  injection hg with hg
  injection hg with _ hg _
  exact htg hg
 ·injection e with _ e _
  exact ht e
theorem Mach.nil_ (h : Mach W w g nm bs en st AN cN AB cB AE cE AS cS) : Mach W (w.setCell ⟨g, 3, none⟩ (.slice none 0 0)) g nm bs en [] AN cN AB cB AE cE none 0 ∧ KeepT w (w.setCell ⟨g, 3, none⟩ (.slice none 0 0)) g := by
  have b2 := blk_set h.blk 3 (.slice none 0 0)
  have ty : ∀ {e : Nat} {α : Type} {enc : α → Value} {h1 : ∀ x, (enc x).oneCell' = true} {v : Value} {xs : List α} {ok : Nat → Prop}, (Kd.scalar enc h1).R e w W.heap.size ok v xs → e ≠ 105 → (Kd.scalar enc h1).R e (w.setCell ⟨g, 3, none⟩ (.slice none 0 0)) W.heap.size ok v xs := fun {e α enc h1 v xs ok} hr hne => by
    refine Kd.R_mono (Kd.R_set hr h.blk (fun q hq => ?_) 3 _) (fun _ h => h)
    have : q = e := by simpa [Kd.scalar] using hq
    rw [this]; exact hne
  exact ⟨⟨h.below.setCell (p := ⟨g, 3, none⟩) h.hg _, h.hg, b2, ty h.nms (by decide), ty h.bts (by decide), h.env, Kd.R_nil _ _ _ _ _⟩, ⟨by simp [World.setCell], fun i o hi ho _ => (Below.heap_setCell w ⟨g, 3, none⟩ _ i hi).trans ho⟩⟩
theorem Mach.bit_ {gb : Nat} (h : Mach W w g nm bs en st AN cN (some ⟨gb, 0, none⟩) cB AE cE AS cS) (i : Int) (b : Bool) (hgb : W.heap.size ≤ gb) : Mach W (w.setCell ⟨gb, i.toNat, none⟩ (.bool b)) g nm (bs.set i.toNat b) en st AN cN (some ⟨gb, 0, none⟩) cB AE cE AS cS ∧ KeepT w (w.setCell ⟨gb, i.toNat, none⟩ (.bool b)) g := by
 obtain ⟨hs, hgr⟩ := Kd.R_put h.bts i b
 obtain ⟨cells, hty⟩ := own_typed (Kd.own_of_R h.bts) gb rfl
 have hne : g ≠ gb := fun e => by
  subst e
  rw [h.blk] at hty
  injection hty with hty
  injection hty with _ hty _
  cases hty
 have hblk := (hgr.block g (blk_lt h.blk) (by simpa using hne)).trans h.blk
 refine ⟨⟨h.below.setCell (p := ⟨gb, i.toNat, none⟩) hgb _, h.hg, by rw [List.length_set]; exact hblk, ?_, by rw [List.length_set]; exact hs, h.env, ?_⟩, ⟨hgr.size, fun j o hj ho ht => (hgr.block j (blk_lt ho) (fun e => ?_)).trans ho⟩⟩
 ·refine Kd.R_mono (Kd.R_grown (Kd.R_tight rfl h.nms) hgr (fun k hk e => ?_)) (fun _ _ => trivial)
  obtain ⟨cells', hc'⟩ := own_typed (Kd.own_of_R h.nms) k hk.symm
  injection e with e
  subst e
  rw [hty] at hc'
  injection hc' with hc'
  injection hc' with _ hc' _
  cases hc'
 ·rw [List.length_set]
  refine Kd.R_reok rfl (Kd.R_grown (Kd.R_tight rfl h.stk) hgr (fun k hk e => ?_)) h.stk.1
  injection e with e
  subst e
  exact h.stk.1 _ hk.symm rfl
 ·injection e with e
  subst e
  rw [hty] at ho
  injection ho with ho
  exact ht _ ho.symm
theorem Mach.names_ {u : Value} {hs : List ByteArray} {ok : Nat → Prop} (h : Mach W w g nm bs en st AN cN AB cB AE cE AS cS) (hu : Kd.R Kd.string 9 w W.heap.size ok u hs) (hne : ∀ k, u.ownBlock = some k → some k ≠ (Value.slice AN nm.length cN).ownBlock) (hB : Below W.heap.size W w1) (hk : Kept w w1 (fun k => some k = u.ownBlock)) : Mach W w1 g nm bs en st AN cN AB cB AE cE AS cS := by
 have hty : ∀ k, some k = u.ownBlock → ∃ cells, w.heap[k]? = some (.cells cells 9 (0, 0)) := fun k e => own_typed (Kd.own_of_R hu) k e.symm
 have dif : ∀ {k t : Nat} {cs : Array Value}, w.heap[k]? = some (.cells cs t (0, 0)) → t ≠ 9 → ¬ some k = u.ownBlock := fun {k t cs} hb ht e => by
  obtain ⟨cells, hc⟩ := hty k e
  rw [hb] at hc
  injection hc with hc
  injection hc with _ hc _
  exact ht hc
 refine ⟨hB, h.hg, blk_kept h.blk hk (dif h.blk (by decide)), ?_, ?_, h.env, ?_⟩
 ·exact Kd.R_mono (Kd.R_kept (Kd.R_tight rfl h.nms) hk (fun k e1 e2 => hne k e2.symm e1)) (fun _ _ => trivial)
 ·refine Kd.R_mono (Kd.R_kept (Kd.R_tight rfl h.bts) hk (fun k e1 e2 => ?_)) (fun _ _ => trivial)
  obtain ⟨cells, hc⟩ := own_typed (Kd.own_of_R h.bts) k e1.symm
  exact dif hc (by decide) e2
 ·refine Kd.R_reok rfl (Kd.R_kept (Kd.R_tight rfl h.stk) hk (fun k e1 e2 => ?_)) h.stk.1
  obtain ⟨cells, hc⟩ := own_typed (Kd.own_of_R h.stk) k e1.symm
  exact dif hc (by decide) e2
end
def codeF (k : Nat) (nm : List ByteArray) (bs : List Bool) (en : List S69) : List S40 → List Bool → Option (List Bool)
  | [], st => some st
  | x :: xs, st => (insF k nm bs en x st).bind fun st' => codeF k nm bs en xs st'
def rungF (k : Nat) (nm : List ByteArray) (en : List S69) (r : S43) (s : List Bool × List ByteArray × List ByteArray) : Option (List Bool × List ByteArray × List ByteArray) :=
  (codeF k nm s.1 en r.f2 []).bind fun st => if st.length = 0 then none else
    (if r.f0 = 0 then (idxF k nm s.1 r.f1).bind fun i => some (s.1.set i.toNat (rdOf false st 0), s.2.1, s.2.2)
    else if r.f0 = 1 then (if rdOf false st 0 = true then (idxF k nm s.1 r.f1).bind fun i => some (s.1.set i.toNat true, s.2.1, s.2.2) else some s)
    else if r.f0 = 2 then (if rdOf false st 0 = true then (idxF k nm s.1 r.f1).bind fun i => some (s.1.set i.toNat false, s.2.1, s.2.2) else some s)
    else if r.f0 = 3 then (if rdOf false st 0 = true then some s else (rung_once.f k s.2.1 r.f1).bind fun h => some (s.1, h, s.2.2))
    else if r.f0 = 4 then (if rdOf false st 0 = true then some s else (rung_once.f k s.2.2 r.f1).bind fun h => some (s.1, s.2.1, h))
    else some s)
def rungsF (k : Nat) (nm : List ByteArray) (en : List S69) : List S43 → List Bool × List ByteArray × List ByteArray → Option (List Bool × List ByteArray × List ByteArray)
  | [], s => some s
  | r :: rs, s => (rungF k nm en r s).bind fun s' => rungsF k nm en rs s'
theorem codeF_mono (k : Nat) (nm : List ByteArray) (bs : List Bool) (en : List S69) : ∀ (l : List S40) (st : List Bool), LeO (codeF k nm bs en l st) (codeF (k + 1) nm bs en l st)
  | [], st => LeO.refl _
  | x :: xs, st => LeO.bind (insF_mono _ _ _ _ _ _) (fun _ => codeF_mono k nm bs en xs _)
theorem rungF_mono (k : Nat) (nm : List ByteArray) (en : List S69) (r : S43) (s : List Bool × List ByteArray × List ByteArray) : LeO (rungF k nm en r s) (rungF (k + 1) nm en r s) := by
  unfold rungF
  repeat' first
    | exact LeO.refl _
    | exact codeF_mono _ _ _ _ _ _
    | exact idxF_mono _ _ _ _
    | exact rung_once.mono _ _ _
    | refine LeO.ite ?_ ?_
    | refine LeO.bind ?_ (fun _ => ?_)
theorem rungsF_mono (k : Nat) (nm : List ByteArray) (en : List S69) : ∀ (l : List S43) (s : List Bool × List ByteArray × List ByteArray), LeO (rungsF k nm en l s) (rungsF (k + 1) nm en l s)
  | [], s => LeO.refl _
  | r :: rs, s => LeO.bind (rungF_mono _ _ _ _ _) (fun _ => rungsF_mono k nm en rs _)
theorem drop_T40 {l : List S40} {i : Int} (h0 : 0 ≤ i) (h1 : i < l.length) : l.drop i.toNat = rd_T40 l i :: l.drop (i + 1).toNat := by
  have h : i.toNat < l.length := by omega
  rw [show (i + 1).toNat = i.toNat + 1 from by omega, List.drop_eq_getElem_cons h]
  unfold rd_T40; rw [List.getD, List.getElem?_eq_getElem h]; rfl
theorem drop_T43 {l : List S43} {i : Int} (h0 : 0 ≤ i) (h1 : i < l.length) : l.drop i.toNat = rd_T43 l i :: l.drop (i + 1).toNat := by
  have h : i.toNat < l.length := by omega
  rw [show (i + 1).toNat = i.toNat + 1 from by omega, List.drop_eq_getElem_cons h]
  unfold rd_T43; rw [List.getD, List.getElem?_eq_getElem h]; rfl
end Go.Proofs.YtiaccdaeomaogaaDoor.F
namespace Go.Proofs.YtiaccdaeomaogaaDoor.F
open Go.RowKit Go.Proofs.YtiaccdaeomaogaaDoorW.PrintWords Go.Proofs.YtiaccdaeomaogaaDoorW.PrintLast Go.Proofs.YtiaccdaeomaogaaDoorW.PrintMore
attribute [local go_sem] max2_int min2_int max_two min_two max_three min_three max_four min_four   -- for this text's walks alone
set_option linter.unusedVariables false
set_option linter.unusedSimpArgs false
def rung_Run.f (k : Nat) (l0 : List (S43)) (l1 : List Bool) (l2 : List (S69)) : Option (List Bool × List ByteArray × List ByteArray) :=
  (rung_Bits.f k l0).bind fun nm => (slices_Clone_bool_bool.f l1).bind fun bs => if l1.length = nm.length then ((rung_checkN.f k l0 [] []).bind fun e => if e = 0 then rungsF k nm l2 l0 (bs, [], []) else some ([], [], [])) else some ([], [], [])
theorem rung_Run.mono : ∀ a0 a1 a2 k, LeO (rung_Run.f k a0 a1 a2) (rung_Run.f (k + 1) a0 a1 a2) := by
  intro a0 a1 a2 k
  unfold rung_Run.f
  repeat' first
    | exact LeO.refl _
    | exact rung_Bits.mono _ _
    | exact rung_checkN.mono _ _ _ _
    | exact rungsF_mono _ _ _ _ _
    | refine LeO.ite ?_ ?_
    | refine LeO.bind ?_ (fun _ => ?_)
theorem clone_f {l r : List Bool} (h : slices_Clone_bool_bool.f l = some r) : r = l := by
 unfold slices_Clone_bool_bool.f at h
 split at h
 ·exact (Option.some.inj h).symm
 ·cases h
def Rows2 (W w : World) (AN : Option Addr) (n cN : Nat) (u u' : Value) (hs bs : List ByteArray) : Prop :=
  Kd.R Kd.string 9 w W.heap.size (fun k => some k ≠ (Value.slice AN n cN).ownBlock ∧ some k ≠ u'.ownBlock) u hs ∧ Kd.R Kd.string 9 w W.heap.size (fun k => some k ≠ (Value.slice AN n cN).ownBlock ∧ some k ≠ u.ownBlock) u' bs
theorem Rows2.keepT {W w w1 : World} {AN : Option Addr} {n cN g : Nat} {u u' : Value} {hs bs : List ByteArray} {cs : Array Value} (h : Rows2 W w AN n cN u u' hs bs) (hk : KeepT w w1 g) (hg : w.heap[g]? = some (.cells cs 105 (0, 0))) : Rows2 W w1 AN n cN u u' hs bs := ⟨R_keepT h.1 hk hg, R_keepT h.2 hk hg⟩
theorem Rows2.below {W w w1 : World} {AN : Option Addr} {n cN : Nat} {u u' : Value} {hs bs : List ByteArray} (h : Rows2 W w AN n cN u u' hs bs) (hk : Below w.heap.size w w1) : Rows2 W w1 AN n cN u u' hs bs := ⟨Kd.R_below h.1 hk, Kd.R_below h.2 hk⟩
theorem Rows2.swap {W w : World} {AN : Option Addr} {n cN : Nat} {u u' : Value} {hs bs : List ByteArray} (h : Rows2 W w AN n cN u u' hs bs) : Rows2 W w AN n cN u' u bs hs := ⟨h.2, h.1⟩
theorem Rows2.put {W w w1 : World} {AN : Option Addr} {cN : Nat} {nm : List ByteArray} {u u' v : Value} {hs bs hs' : List ByteArray} (h : Rows2 W w AN nm.length cN u u' hs bs) (hn : Kd.R Kd.string 9 w W.heap.size (fun _ => True) (.slice AN nm.length cN) nm) (hr : Kd.R Kd.string 9 w1 W.heap.size (fun k_ => ((some k_ = u.ownBlock) ∨ w.heap.size ≤ k_)) v hs') (hk : Kept w w1 (fun k => some k = u.ownBlock)) : Rows2 W w1 AN nm.length cN v u' hs' bs := by
  have lt : ∀ {v2 : Value} {xs : List ByteArray} {ok : Nat → Prop} {k : Nat}, Kd.R Kd.string 9 w W.heap.size ok v2 xs → some k = v2.ownBlock → k < w.heap.size := fun {v2 xs ok k} h2 e => by
    obtain ⟨cells, hc⟩ := own_typed (Kd.own_of_R h2) k e.symm
    exact blk_lt hc
  have dis : ∀ k, v.ownBlock = some k → some k ≠ (Value.slice AN nm.length cN).ownBlock ∧ some k ≠ u'.ownBlock := fun k hv => by
    rcases hr.1 k hv with e | hge
    · exact h.1.1 k e.symm
    · exact ⟨fun e => by have := lt hn e; omega, fun e => by have := lt h.2 e; omega⟩
  refine ⟨Kd.R_reok rfl hr dis, ?_⟩
  refine Kd.R_reok rfl (Kd.R_kept (Kd.R_tight rfl h.2) hk (fun k e1 e2 => (h.2.1 k e1.symm).2 e2)) (fun k e => ⟨(h.2.1 k e).1, fun e2 => (dis k e2.symm).2 e.symm⟩)
theorem nilC (w : World) : Kd.C Kd.string w none ([] : List ByteArray).length [] := ⟨rfl, by simp, fun h => absurd h (Nat.lt_irrefl 0)⟩
set_option maxHeartbeats 8000000 in
set_option maxRecDepth 100000 in
theorem Run_len (k : Nat) (A0 : Option Addr) (c0 : Nat) (l0 : List (S43)) (A1 : Option Addr) (c1 : Nat) (l1 : List Bool) (A2 : Option Addr) (c2 : Nat) (l2 : List (S69)) (nm : List ByteArray) (w : World) (hr0 : Kd.C k43 w A0 l0.length l0) (hc0 : l0.length ≤ c0) (hr1 : Kd.C Kd.bool w A1 l1.length l1) (hc1 : l1.length ≤ c1) (hr2 : Kd.C k69 w A2 l2.length l2) (hc2 : l2.length ≤ c2) (hbi : rung_Bits.f k l0 = some nm) (hcl : slices_Clone_bool_bool.f l1 = some l1) (hne : l1.length ≠ nm.length) :
    Calls Tryd.prog 31 #[.slice A0 l0.length c0, .slice A1 l1.length c1, .slice A2 l2.length c2] w fun e w' => ∃ v0_ v1_ v2_ : Value, e = .returned (.tuple #[v0_, v1_, v2_]) ∧ Kd.R Kd.bool 4 w' w.heap.size (fun _ => True) v0_ [] ∧ Kd.R Kd.string 9 w' w.heap.size (fun k_ => some k_ ≠ (v2_ : Value).ownBlock) v1_ [] ∧ Kd.R Kd.string 9 w' w.heap.size (fun k_ => some k_ ≠ (v1_ : Value).ownBlock) v2_ [] ∧ Below w.heap.size w w' := by
  have HR0 := Aside0.mk hr0
  have HC0 := Aside0.mk hc0
  have HR1 := Aside0.mk hr1
  have HC1 := Aside0.mk hc1
  have HR2 := Aside0.mk hr2
  have HC2 := Aside0.mk hc2
  have HBi := Aside0.mk hbi
  have HCl := Aside0.mk hcl
  have d1 : ((l1.length : Int) == (nm.length : Int)) = false := beq_eq_false_iff_ne.mpr (by omega)
  have d2 : ((l1.length : Int) != (nm.length : Int)) = true := bne_iff_ne.mpr (by omega)
  clear hr0 hc0 hr1 hc1 hr2 hc2 hbi hcl hne
  go_enter Tryd.func31, Tryd.ntmps31
  go_wp2_with (first | (go_at_call 23; refine (rung_Bits.calls k A0 c0 l0 nm _ HR0.out HC0.out HBi.out).mono ?_; rintro e w1 ⟨v1, rfl, ho1, hb1⟩; obtain ⟨AN, cN, e1⟩ := Kd.R_slice ho1; subst e1; have HO1 := Aside0.mk ho1; have HB1 := Aside0.mk hb1; clear ho1 hb1) | (go_at_call 65; refine (slices_Clone_bool_bool.calls A1 c1 l1 l1 _ (Kd.C_below HR1.out HB1.out) HC1.out HCl.out).mono ?_; rintro e w2 ⟨v2, rfl, ho2, hb2⟩; obtain ⟨AB, cB, e2⟩ := Kd.R_slice ho2; subst e2; have HO2 := Aside0.mk (Kd.R_lower ho2 HB1.out.size); have HB2 := Aside0.mk (below_step HB1.out hb2); have HO3 := Aside0.mk (Kd.R_below HO1.out hb2); clear ho2 hb2) | ((with_reducible refine gate_dst (N := 23) rfl ?_); refine box_event ?hg (N := 23) ?hd (cs := #[.slice AN nm.length cN, .slice AB l1.length cB, .slice A2 l2.length c2, .slice none 0 0]) (t := 105) ?hr ?_; (case hd => rfl); (case hg => rfl); (case hr => first | (go_simp; done) | (go_simp; rfl)); intro g hg w3 hbox hb3; have HM3 : Aside0 (Mach w w3 g nm l1 l2 [] AN cN AB cB A2 c2 none 0) := ⟨⟨below_step HB2.out hb3, by rw [hg]; exact HB2.out.size, hbox, Kd.R_below HO3.out hb3, Kd.R_below HO2.out hb3, ⟨HR2.out, HC2.out⟩, Kd.R_nil _ _ _ _ _⟩⟩; have hm0 : w3.cell? ⟨g, 0, none⟩ = some (.slice AN nm.length cN) := (blk_cell hbox 0).trans rfl; clear hbox hb3 hg))
  refine bodyPost_ret (results_tmp3 rfl _ _ _) rfl ?_
  exact ⟨_, _, _, rfl, Kd.R_nil _ _ _ _ _, Kd.R_nil _ _ _ _ _, Kd.R_nil _ _ _ _ _, HM3.out.below⟩
set_option maxHeartbeats 8000000 in
set_option maxRecDepth 100000 in
theorem Run_bad (k : Nat) (A0 : Option Addr) (c0 : Nat) (l0 : List (S43)) (A1 : Option Addr) (c1 : Nat) (l1 : List Bool) (A2 : Option Addr) (c2 : Nat) (l2 : List (S69)) (nm : List ByteArray) (er : Int) (w : World) (hr0 : Kd.C k43 w A0 l0.length l0) (hc0 : l0.length ≤ c0) (hr1 : Kd.C Kd.bool w A1 l1.length l1) (hc1 : l1.length ≤ c1) (hr2 : Kd.C k69 w A2 l2.length l2) (hc2 : l2.length ≤ c2) (hT : UT w) (hbi : rung_Bits.f k l0 = some nm) (hcl : slices_Clone_bool_bool.f l1 = some l1) (hne : l1.length = nm.length) (he : rung_checkN.f k l0 [] [] = some er) (h0 : er ≠ 0) :
    Calls Tryd.prog 31 #[.slice A0 l0.length c0, .slice A1 l1.length c1, .slice A2 l2.length c2] w fun e w' => ∃ v0_ v1_ v2_ : Value, e = .returned (.tuple #[v0_, v1_, v2_]) ∧ Kd.R Kd.bool 4 w' w.heap.size (fun _ => True) v0_ [] ∧ Kd.R Kd.string 9 w' w.heap.size (fun k_ => some k_ ≠ (v2_ : Value).ownBlock) v1_ [] ∧ Kd.R Kd.string 9 w' w.heap.size (fun k_ => some k_ ≠ (v1_ : Value).ownBlock) v2_ [] ∧ Below w.heap.size w w' := by
  have HR0 := Aside0.mk hr0
  have HC0 := Aside0.mk hc0
  have HR1 := Aside0.mk hr1
  have HC1 := Aside0.mk hc1
  have HR2 := Aside0.mk hr2
  have HC2 := Aside0.mk hc2
  have HBi := Aside0.mk hbi
  have HCl := Aside0.mk hcl
  have HE := Aside0.mk he
  have HT := Aside0.mk hT
  have e1 : (l1.length : Int) = (nm.length : Int) := by omega
  have d1 : ((l1.length : Int) == (nm.length : Int)) = true := beq_iff_eq.mpr e1
  have d2 : ((l1.length : Int) != (nm.length : Int)) = false := bne_eq_false_iff_eq.mpr e1
  have d3 : (er == 0) = false := beq_eq_false_iff_ne.mpr h0
  have d4 : (er != 0) = true := bne_iff_ne.mpr h0
  clear hr0 hc0 hr1 hc1 hr2 hc2 hbi hcl hne he h0 hT e1
  go_enter Tryd.func31, Tryd.ntmps31
  go_wp2_with (first | (go_at_call 23; refine (rung_Bits.calls k A0 c0 l0 nm _ HR0.out HC0.out HBi.out).mono ?_; rintro e w1 ⟨v1, rfl, ho1, hb1⟩; obtain ⟨AN, cN, e1⟩ := Kd.R_slice ho1; subst e1; have HO1 := Aside0.mk ho1; have HB1 := Aside0.mk hb1; clear ho1 hb1) | (go_at_call 65; refine (slices_Clone_bool_bool.calls A1 c1 l1 l1 _ (Kd.C_below HR1.out HB1.out) HC1.out HCl.out).mono ?_; rintro e w2 ⟨v2, rfl, ho2, hb2⟩; obtain ⟨AB, cB, e2⟩ := Kd.R_slice ho2; subst e2; have HO2 := Aside0.mk (Kd.R_lower ho2 HB1.out.size); have HB2 := Aside0.mk (below_step HB1.out hb2); have HO3 := Aside0.mk (Kd.R_below HO1.out hb2); clear ho2 hb2) | ((with_reducible refine gate_dst (N := 23) rfl ?_); refine box_event ?hg (N := 23) ?hd (cs := #[.slice AN nm.length cN, .slice AB l1.length cB, .slice A2 l2.length c2, .slice none 0 0]) (t := 105) ?hr ?_; (case hd => rfl); (case hg => rfl); (case hr => first | (go_simp; done) | (go_simp; rfl)); intro g hg w3 hbox hb3; have HM3 : Aside0 (Mach w w3 g nm l1 l2 [] AN cN AB cB A2 c2 none 0) := ⟨⟨below_step HB2.out hb3, by rw [hg]; exact HB2.out.size, hbox, Kd.R_below HO3.out hb3, Kd.R_below HO2.out hb3, ⟨HR2.out, HC2.out⟩, Kd.R_nil _ _ _ _ _⟩⟩; have hm0 : w3.cell? ⟨g, 0, none⟩ = some (.slice AN nm.length cN) := (blk_cell hbox 0).trans rfl; clear hbox hb3 hg) | (go_at_call 59; refine (rung_checkN.calls k A0 c0 l0 none 0 [] [] er _ (Kd.C_below HR0.out HM3.out.below) HC0.out (nilC _) (Nat.le_refl _) HE.out rfl (UT.below HT.out HM3.out.below)).mono ?_; rintro e w4 ⟨rfl, hb4⟩; have HM4 := Aside0.mk (Mach.step HM3.out hb4); clear hb4))
  refine bodyPost_ret (results_tmp3 rfl _ _ _) rfl ?_
  exact ⟨_, _, _, rfl, Kd.R_nil _ _ _ _ _, Kd.R_nil _ _ _ _ _, Kd.R_nil _ _ _ _ _, HM4.out.below⟩
set_option maxHeartbeats 8000000 in
set_option maxRecDepth 100000 in
theorem Run_main (k : Nat) (A0 : Option Addr) (c0 : Nat) (l0 : List (S43)) (A1 : Option Addr) (c1 : Nat) (l1 : List Bool) (A2 : Option Addr) (c2 : Nat) (l2 : List (S69)) (nm : List ByteArray) (r : List Bool × List ByteArray × List ByteArray) (w : World) (hr0 : Kd.C k43 w A0 l0.length l0) (hc0 : l0.length ≤ c0) (hr1 : Kd.C Kd.bool w A1 l1.length l1) (hc1 : l1.length ≤ c1) (hr2 : Kd.C k69 w A2 l2.length l2) (hc2 : l2.length ≤ c2) (hT : UT w) (hbi : rung_Bits.f k l0 = some nm) (hcl : slices_Clone_bool_bool.f l1 = some l1) (hne : l1.length = nm.length) (he : rung_checkN.f k l0 [] [] = some 0) (hrs : rungsF k nm l2 l0 (l1, [], []) = some r) :
    Calls Tryd.prog 31 #[.slice A0 l0.length c0, .slice A1 l1.length c1, .slice A2 l2.length c2] w fun e w' => ∃ v0_ v1_ v2_ : Value, e = .returned (.tuple #[v0_, v1_, v2_]) ∧ Kd.R Kd.bool 4 w' w.heap.size (fun _ => True) v0_ r.1 ∧ Kd.R Kd.string 9 w' w.heap.size (fun k_ => some k_ ≠ (v2_ : Value).ownBlock) v1_ r.2.1 ∧ Kd.R Kd.string 9 w' w.heap.size (fun k_ => some k_ ≠ (v1_ : Value).ownBlock) v2_ r.2.2 ∧ Below w.heap.size w w' := by
  have HR0 := Aside0.mk hr0
  have HC0 := Aside0.mk hc0
  have HR1 := Aside0.mk hr1
  have HC1 := Aside0.mk hc1
  have HR2 := Aside0.mk hr2
  have HC2 := Aside0.mk hc2
  have HBi := Aside0.mk hbi
  have HCl := Aside0.mk hcl
  have HE := Aside0.mk he
  have HT := Aside0.mk hT
  have HRS := Aside0.mk hrs
  have e1 : (l1.length : Int) = (nm.length : Int) := by omega
  have d1 : ((l1.length : Int) == (nm.length : Int)) = true := beq_iff_eq.mpr e1
  have d2 : ((l1.length : Int) != (nm.length : Int)) = false := bne_eq_false_iff_eq.mpr e1
  have hu43 := Tryd.underlying43
  have hu40 := Tryd.underlying40
  have hu34 := Tryd.underlying34
  clear hr0 hc0 hr1 hc1 hr2 hc2 hbi hcl hne he hT hrs e1
  go_enter Tryd.func31, Tryd.ntmps31
  go_wp2_with (first | (go_at_call 23; refine (rung_Bits.calls k A0 c0 l0 nm _ HR0.out HC0.out HBi.out).mono ?_; rintro e w1 ⟨v1, rfl, ho1, hb1⟩; obtain ⟨AN, cN, e1⟩ := Kd.R_slice ho1; subst e1; have HO1 := Aside0.mk ho1; have HB1 := Aside0.mk hb1; clear ho1 hb1) | (go_at_call 65; refine (slices_Clone_bool_bool.calls A1 c1 l1 l1 _ (Kd.C_below HR1.out HB1.out) HC1.out HCl.out).mono ?_; rintro e w2 ⟨v2, rfl, ho2, hb2⟩; obtain ⟨AB, cB, e2⟩ := Kd.R_slice ho2; subst e2; have HO2 := Aside0.mk (Kd.R_lower ho2 HB1.out.size); have HB2 := Aside0.mk (below_step HB1.out hb2); have HO3 := Aside0.mk (Kd.R_below HO1.out hb2); clear ho2 hb2) | ((with_reducible refine gate_dst (N := 23) rfl ?_); refine box_event ?hg (N := 23) ?hd (cs := #[.slice AN nm.length cN, .slice AB l1.length cB, .slice A2 l2.length c2, .slice none 0 0]) (t := 105) ?hr ?_; (case hd => rfl); (case hg => rfl); (case hr => first | (go_simp; done) | (go_simp; rfl)); intro g hg w3 hbox hb3; have HM3 : Aside0 (Mach w w3 g nm l1 l2 [] AN cN AB cB A2 c2 none 0) := ⟨⟨below_step HB2.out hb3, by rw [hg]; exact HB2.out.size, hbox, Kd.R_below HO3.out hb3, Kd.R_below HO2.out hb3, ⟨HR2.out, HC2.out⟩, Kd.R_nil _ _ _ _ _⟩⟩; have hm0 : w3.cell? ⟨g, 0, none⟩ = some (.slice AN nm.length cN) := (blk_cell hbox 0).trans rfl; clear hbox hb3 hg) | (go_at_call 59; refine (rung_checkN.calls k A0 c0 l0 none 0 [] [] 0 _ (Kd.C_below HR0.out HM3.out.below) HC0.out (nilC _) (Nat.le_refl _) HE.out rfl (UT.below HT.out HM3.out.below)).mono ?_; rintro e w4 ⟨rfl, hb4⟩; have HM4 := Aside0.mk (Mach.step HM3.out hb4); clear hb4))
  go_loopg [10, 11, 39] l0.length (fun kq v10 v11 v39 w' => ∃ (u u' : Value) (x : Int) (s : List Bool × List ByteArray × List ByteArray) (stx : List Bool) (AS : Option Addr) (cS : Nat), v10 = u ∧ v11 = u' ∧ v39 = .int .i64 x ∧ Aside0 (0 ≤ x ∧ x ≤ (l0.length : Int) ∧ (kq : Int) = l0.length - x) ∧ Aside0 (Mach w w' g nm s.1 l2 stx AN cN AB cB A2 c2 AS cS) ∧ Aside0 (Rows2 w w' AN nm.length cN u u' s.2.1 s.2.2) ∧ Aside0 (rungsF k nm l2 (l0.drop x.toNat) s = some r))
  case atStart => exact ⟨_, _, 0, (l1, [], []), [], none, 0, rfl, rfl, rfl, ⟨by omega, by omega, by omega⟩, HM4, ⟨Kd.R_nil _ _ _ _ _, Kd.R_nil _ _ _ _ _⟩, ⟨by simpa using HRS.out⟩⟩
  case round =>
    clear HRS HM4 HM3 hm0 d1 d2 HB2 HO1 HO2 HO3 HB1 HE HCl HBi HR1 HC1
    obtain ⟨u, u', x, s, stx, AS, cS, rfl, rfl, rfl, HK, HM, HU, HRs⟩ := hrel
    by_cases hlt : x < (l0.length : Int)
    · have p1 := HK.out.1
      have q1 := hlt
      obtain ⟨ad, AC, cC, e1, y0, y1, y2, lC, gC⟩ := at_T43 HR0.out x p1 q1
      cases e1
      have hx0 := pw_cell_below HM.out.below y0
      have hx1 := pw_cell_below HM.out.below y1
      have hx2 := pw_cell_below HM.out.below y2
      have hrs := HRs.out
      rw [drop_T43 p1 q1] at hrs
      generalize rd_T43 l0 x = y at *
      obtain ⟨s', hrung, hrest⟩ := Option.bind_eq_some_iff.mp hrs
      unfold rungF at hrung
      obtain ⟨stE, hcode, hrung⟩ := Option.bind_eq_some_iff.mp hrung
      by_cases hst : stE.length = 0
      · rw [if_pos hst] at hrung; cases hrung
      rw [if_neg hst] at hrung
      have HRung := Aside0.mk hrung
      have HRest := Aside0.mk hrest
      have HCode := Aside0.mk hcode
      have HST := Aside0.mk hst
      have HGC := Aside0.mk gC
      have HLC := Aside0.mk lC
      obtain ⟨go, hgo⟩ : ∃ q, q = gk := ⟨_, rfl⟩
      have HGO := Aside0.mk hgo
      have HKK : Aside0 (0 ≤ x ∧ x < (l0.length : Int) ∧ (go : Int) = l0.length - x) := ⟨by have := HK.out; omega⟩
      clear hgo
      have hw : wrap64 (x + 1) = x + 1 := by have := HK.out; have := HR0.out.2.1; unfold wrap64; omega
      have f0 : decide (x < (l0.length : Int)) = true := decide_eq_true hlt
      have f1 : decide (0 ≤ x) = true := decide_eq_true p1
      replace p1 := eq_true p1
      replace q1 := eq_true q1
      clear hlt HK HRs hrs hrung hrest hcode hst gC lC y0 y1 y2
      go_upto_region 8 with (fail)
      obtain ⟨w5, hw5⟩ : ∃ w5, w5 = wr.alloc (.cells #[.int .i64 y.f0, .string y.f1, .slice AC y.f2.length cC] 43) := ⟨_, rfl⟩
      rw [← hw5]
      have hal : Below wr.heap.size wr w5 := by rw [hw5]; exact below_alloc (Below.refl _ _) _
      have HX5 : Aside0 (w5.heap[wr.heap.size]? = some (.cells #[.int .i64 y.f0, .string y.f1, .slice AC y.f2.length cC] 43 (0, 0))) := ⟨by rw [hw5]; exact heap_alloc_new wr _⟩
      have HM5 := Aside0.mk (Mach.step HM.out hal)
      have HU5 := Aside0.mk (Rows2.below HU.out hal)
      have hm3 : w5.cell? ⟨g, 3, none⟩ = some (.slice AS stx.length cS) := (blk_cell HM5.out.blk 3).trans rfl
      have fm3 : w5.frozen? ⟨g, 3, none⟩ = false := blk_frozen HM5.out.blk 3
      obtain ⟨gr, hgr⟩ : ∃ gr, gr = wr.heap.size := ⟨_, rfl⟩
      rw [← hgr] at HX5
      rw [← hgr]
      clear hal hw5 hgr HM HU hx0 hx1 hx2
      go_upto_region 9 with (fail)
      obtain ⟨w6, hw6⟩ : ∃ w6, w6 = w5.setCell ⟨g, 3, none⟩ (.slice none 0 0) := ⟨_, rfl⟩
      rw [← hw6]
      have hn := Mach.nil_ HM5.out
      rw [← hw6] at hn
      have HM6 := Aside0.mk hn.1
      have HU6 := Aside0.mk (Rows2.keepT HU5.out hn.2 HM5.out.blk)
      have HX6 := Aside0.mk (blk_keepT HX5.out hn.2 (by decide) HM5.out.blk (by decide))
      have hb2 : w6.cell? ⟨gr, 2, none⟩ = some (.slice AC y.f2.length cC) := (blk_cell HX6.out 2).trans rfl
      clear hn hw6 hm3 fm3 HM5 HU5 HX5
      go_wp2
      go_loopg [49] y.f2.length (fun kq v49 w' => ∃ (j : Int) (st : List Bool) (AS : Option Addr) (cS : Nat), v49 = .int .i64 j ∧ Aside0 (0 ≤ j ∧ j ≤ (y.f2.length : Int) ∧ (kq : Int) = y.f2.length - j) ∧ Aside0 (Mach w w' g nm s.1 l2 st AN cN AB cB A2 c2 AS cS) ∧ Aside0 (Rows2 w w' AN nm.length cN u10 u11 s.2.1 s.2.2) ∧ Aside0 (w'.heap[gr]? = some (.cells #[.int .i64 y.f0, .string y.f1, .slice AC y.f2.length cC] 43 (0, 0))) ∧ Aside0 (codeF k nm s.1 l2 (y.f2.drop j.toNat) st = some stE))
      case atStart => exact ⟨0, [], none, 0, rfl, ⟨by omega, by omega, by omega⟩, HM6, HU6, HX6, ⟨by simpa using HCode.out⟩⟩
      case round =>
        clear HM6 HU6 HX6 hb2 HCode
        obtain ⟨j, st, AS, cS, rfl, HJ, HM, HU, HX, HCd⟩ := hrel
        by_cases hjt : j < (y.f2.length : Int)
        · have p3 := HJ.out.1
          have q3 := hjt
          obtain ⟨ad2, A5, c5, e2, z0, z1, z2, z3, z4, z5, l5, g5⟩ := at_T40 HGC.out j p3 q3
          cases e2
          have hz0 := pw_cell_below HM.out.below z0
          have hz1 := pw_cell_below HM.out.below z1
          have hz2 := pw_cell_below HM.out.below z2
          have hz3 := pw_cell_below HM.out.below z3
          have hz4 := pw_cell_below HM.out.below z4
          have hz5 := pw_cell_below HM.out.below z5
          have hcd := HCd.out
          rw [drop_T40 p3 q3] at hcd
          generalize rd_T40 y.f2 j = z at *
          obtain ⟨st', hins, hcd⟩ := Option.bind_eq_some_iff.mp hcd
          have HIns := Aside0.mk hins
          have HCd2 := Aside0.mk hcd
          have HG5 := Aside0.mk g5
          have HL5 := Aside0.mk l5
          have HJJ : Aside0 (0 ≤ j ∧ j < (y.f2.length : Int) ∧ (gk : Int) = y.f2.length - j ∧ (y.f2.length : Int) ≤ 9223372036854775807) := ⟨by have := HJ.out; have := HGC.out.2.1; omega⟩
          have f3 : decide (j < (y.f2.length : Int)) = true := decide_eq_true hjt
          have f4 : decide (0 ≤ j) = true := decide_eq_true p3
          replace p3 := eq_true p3
          replace q3 := eq_true q3
          clear hjt HJ HCd hins hcd g5 l5 z0 z1 z2 z3 z4 z5
          go_wp2_with (first | (go_at_call 67; refine (do_calls k w _ g nm s.1 l2 st AN cN AB cB A2 c2 AS cS z A5 c5 (Mach.step HM.out (below_alloc (Below.refl _ _) _)) HG5.out HL5.out HT.out st' HIns.out).mono ?_; rintro e w7 ⟨rfl, AS7, cS7, hm7, hk7⟩; have HM7 := Aside0.mk hm7; have HU7 := Aside0.mk (Rows2.keepT (Rows2.below HU.out (below_alloc (Below.refl _ _) _)) hk7 (Mach.step HM.out (below_alloc (Below.refl _ _) _)).blk); have HX7 := Aside0.mk (blk_keepT (blk_below HX.out (below_alloc (Below.refl _ _) _)) hk7 (by decide) (Mach.step HM.out (below_alloc (Below.refl _ _) _)).blk (by decide)); clear hm7 hk7))
          go_roundg (gk - 1)
          case measure => have := HJJ.out; omega
          case rel => exact ⟨wrap64 (j + 1), st', AS7, cS7, rfl, ⟨by have := HJJ.out; unfold wrap64; omega⟩, HM7, HU7, HX7, ⟨by rw [show wrap64 (j + 1) = j + 1 from by have := HJJ.out; unfold wrap64; omega]; exact HCd2.out⟩⟩
        · have he : j = y.f2.length := by have := HJ.out; omega
          subst he
          have f3 : decide ((y.f2.length : Int) < (y.f2.length : Int)) = false := decide_eq_false (by omega)
          have hcd := HCd.out
          rw [List.drop_eq_nil_of_le (by omega)] at hcd
          have hse : st = stE := by simpa [codeF] using hcd
          subst hse
          clear HCd hcd HJ hjt
          obtain ⟨sb, hAS, hsb, hsok, hsty⟩ := R_blk HM.out.stk (by have := HST.out; omega)
          subst hAS
          have hcc := Kd.R_cell false HM.out.stk 0 (Int.le_refl 0) (by have := HST.out; omega)
          have hc0 : wr.cell? ⟨sb, 0, none⟩ = some (.bool (rdOf false st 0)) := hcc.1
          have hm3 : wr.cell? ⟨g, 3, none⟩ = some (.slice (some ⟨sb, 0, none⟩) st.length cS) := (blk_cell HM.out.blk 3).trans rfl
          have hb0 : wr.cell? ⟨gr, 0, none⟩ = some (.int .i64 y.f0) := (blk_cell HX.out 0).trans rfl
          have hb1 : wr.cell? ⟨gr, 1, none⟩ = some (.string y.f1) := (blk_cell HX.out 1).trans rfl
          have f5 : decide ((0 : Int) < (st.length : Int)) = true := decide_eq_true (by have := HST.out; omega)
          have p5 : ((0 : Int) < (st.length : Int)) = True := eq_true (by have := HST.out; omega)
          have f6 : decide (0 < st.length) = true := decide_eq_true (by have := HST.out; omega)
          have p6 : (0 < st.length) = True := eq_true (by have := HST.out; omega)
          have hrung := HRung.out
          obtain ⟨top, htop⟩ : ∃ top, rdOf false st 0 = top := ⟨_, rfl⟩
          rw [htop] at hc0 hrung
          clear HRung hcc hsb hsok hsty htop
          by_cases o0 : y.f0 = 0
          · rw [if_pos o0] at hrung
            have t0 : (y.f0 == 0) = true := beq_iff_eq.mpr o0
            obtain ⟨i, hix, hrung⟩ := Option.bind_eq_some_iff.mp hrung
            obtain ⟨hi1, hi2, hi3⟩ := idxF_some hix
            obtain rfl := Option.some.inj hrung
            obtain ⟨gb, hAB, hgb, _, _⟩ := R_blk HM.out.bts (by omega)
            subst hAB
            have hRb := Kd.R_cell false HM.out.bts i hi2 hi3
            obtain ⟨hcB, hfB⟩ := hRb
            have HBit := Aside0.mk (machine_bit k g wr AN cN nm gb s.1.length cB (.slice A2 l2.length c2) (.slice (some ⟨sb, 0, none⟩) st.length cS) y.f1 i HM.out.blk (Kd.R_reads' HM.out.nms).2.2 (Kd.R_reads' HM.out.nms).2.1 hi1 hi2 (by omega))
            have HGB := Aside0.mk hgb
            clear hix hi1 hi2 hi3 hgb hrung
            go_wp2_with (first | (go_at_call 68; refine HBit.out.mono ?_; rintro e w8 ⟨rfl, ⟨n1, rfl⟩⟩))
            go_roundg (go - 1)
            case measure => have := HKK.out; have := HGO.out; omega
            case rel =>
              have m8 := Mach.bit_ (Mach.step HM.out (pw_below_drewN (Below.refl _ wr) n1)) i top HGB.out
              have k8 := (KeepT.below (g := g) (pw_below_drewN (Below.refl _ wr) n1)).trans m8.2
              exact ⟨_, _, x + 1, (s.1.set i.toNat top, s.2.1, s.2.2), st, _, cS, rfl, rfl, (by first | rfl | rw [hw]), ⟨by have := HKK.out; omega⟩, ⟨m8.1⟩, ⟨Rows2.keepT HU.out k8 HM.out.blk⟩, HRest⟩
          rw [if_neg o0] at hrung
          have t0 : (y.f0 == 0) = false := beq_eq_false_iff_ne.mpr o0
          by_cases o1 : y.f0 = 1
          · rw [if_pos o1] at hrung
            have t1 : (y.f0 == 1) = true := beq_iff_eq.mpr o1
            cases top with
            | true =>
              rw [if_pos rfl] at hrung
              obtain ⟨i, hix, hrung⟩ := Option.bind_eq_some_iff.mp hrung
              obtain ⟨hi1, hi2, hi3⟩ := idxF_some hix
              obtain rfl := Option.some.inj hrung
              obtain ⟨gb, hAB, hgb, _, _⟩ := R_blk HM.out.bts (by omega)
              subst hAB
              have hRb := Kd.R_cell false HM.out.bts i hi2 hi3
              obtain ⟨hcB, hfB⟩ := hRb
              have HBit := Aside0.mk (machine_bit k g wr AN cN nm gb s.1.length cB (.slice A2 l2.length c2) (.slice (some ⟨sb, 0, none⟩) st.length cS) y.f1 i HM.out.blk (Kd.R_reads' HM.out.nms).2.2 (Kd.R_reads' HM.out.nms).2.1 hi1 hi2 (by omega))
              have HGB := Aside0.mk hgb
              clear hix hi1 hi2 hi3 hgb hrung
              go_wp2_with (first | (go_at_call 68; refine HBit.out.mono ?_; rintro e w8 ⟨rfl, ⟨n1, rfl⟩⟩))
              go_roundg (go - 1)
              case measure => have := HKK.out; have := HGO.out; omega
              case rel =>
                have m8 := Mach.bit_ (Mach.step HM.out (pw_below_drewN (Below.refl _ wr) n1)) i true HGB.out
                have k8 := (KeepT.below (g := g) (pw_below_drewN (Below.refl _ wr) n1)).trans m8.2
                exact ⟨_, _, x + 1, (s.1.set i.toNat true, s.2.1, s.2.2), st, _, cS, rfl, rfl, (by first | rfl | rw [hw]), ⟨by have := HKK.out; omega⟩, ⟨m8.1⟩, ⟨Rows2.keepT HU.out k8 HM.out.blk⟩, HRest⟩
            | false =>
              rw [if_neg (by decide)] at hrung
              obtain rfl := Option.some.inj hrung
              clear hrung
              go_wp2
              go_roundg (go - 1)
              case measure => have := HKK.out; have := HGO.out; omega
              case rel => exact ⟨_, _, x + 1, s, st, _, cS, rfl, rfl, (by first | rfl | rw [hw]), ⟨by have := HKK.out; omega⟩, ⟨Mach.step HM.out (by repeat (first | exact Below.refl _ _ | apply pw_below_drewN | apply below_drew1))⟩, ⟨Rows2.below HU.out (by repeat (first | exact Below.refl _ _ | apply pw_below_drewN | apply below_drew1))⟩, HRest⟩
          rw [if_neg o1] at hrung
          have t1 : (y.f0 == 1) = false := beq_eq_false_iff_ne.mpr o1
          by_cases o2 : y.f0 = 2
          · rw [if_pos o2] at hrung
            have t2 : (y.f0 == 2) = true := beq_iff_eq.mpr o2
            cases top with
            | true =>
              rw [if_pos rfl] at hrung
              obtain ⟨i, hix, hrung⟩ := Option.bind_eq_some_iff.mp hrung
              obtain ⟨hi1, hi2, hi3⟩ := idxF_some hix
              obtain rfl := Option.some.inj hrung
              obtain ⟨gb, hAB, hgb, _, _⟩ := R_blk HM.out.bts (by omega)
              subst hAB
              have hRb := Kd.R_cell false HM.out.bts i hi2 hi3
              obtain ⟨hcB, hfB⟩ := hRb
              have HBit := Aside0.mk (machine_bit k g wr AN cN nm gb s.1.length cB (.slice A2 l2.length c2) (.slice (some ⟨sb, 0, none⟩) st.length cS) y.f1 i HM.out.blk (Kd.R_reads' HM.out.nms).2.2 (Kd.R_reads' HM.out.nms).2.1 hi1 hi2 (by omega))
              have HGB := Aside0.mk hgb
              clear hix hi1 hi2 hi3 hgb hrung
              go_wp2_with (first | (go_at_call 68; refine HBit.out.mono ?_; rintro e w8 ⟨rfl, ⟨n1, rfl⟩⟩))
              go_roundg (go - 1)
              case measure => have := HKK.out; have := HGO.out; omega
              case rel =>
                have m8 := Mach.bit_ (Mach.step HM.out (pw_below_drewN (Below.refl _ wr) n1)) i false HGB.out
                have k8 := (KeepT.below (g := g) (pw_below_drewN (Below.refl _ wr) n1)).trans m8.2
                exact ⟨_, _, x + 1, (s.1.set i.toNat false, s.2.1, s.2.2), st, _, cS, rfl, rfl, (by first | rfl | rw [hw]), ⟨by have := HKK.out; omega⟩, ⟨m8.1⟩, ⟨Rows2.keepT HU.out k8 HM.out.blk⟩, HRest⟩
            | false =>
              rw [if_neg (by decide)] at hrung
              obtain rfl := Option.some.inj hrung
              clear hrung
              go_wp2
              go_roundg (go - 1)
              case measure => have := HKK.out; have := HGO.out; omega
              case rel => exact ⟨_, _, x + 1, s, st, _, cS, rfl, rfl, (by first | rfl | rw [hw]), ⟨by have := HKK.out; omega⟩, ⟨Mach.step HM.out (by repeat (first | exact Below.refl _ _ | apply pw_below_drewN | apply below_drew1))⟩, ⟨Rows2.below HU.out (by repeat (first | exact Below.refl _ _ | apply pw_below_drewN | apply below_drew1))⟩, HRest⟩
          rw [if_neg o2] at hrung
          have t2 : (y.f0 == 2) = false := beq_eq_false_iff_ne.mpr o2
          by_cases o3 : y.f0 = 3
          · rw [if_pos o3] at hrung
            have t3 : (y.f0 == 3) = true := beq_iff_eq.mpr o3
            cases top with
            | true =>
              rw [if_pos rfl] at hrung
              obtain rfl := Option.some.inj hrung
              clear hrung
              go_wp2
              go_roundg (go - 1)
              case measure => have := HKK.out; have := HGO.out; omega
              case rel => exact ⟨_, _, x + 1, s, st, _, cS, rfl, rfl, (by first | rfl | rw [hw]), ⟨by have := HKK.out; omega⟩, ⟨Mach.step HM.out (by repeat (first | exact Below.refl _ _ | apply pw_below_drewN | apply below_drew1))⟩, ⟨Rows2.below HU.out (by repeat (first | exact Below.refl _ _ | apply pw_below_drewN | apply below_drew1))⟩, HRest⟩
            | false =>
              rw [if_neg (by decide)] at hrung
              obtain ⟨h8, honce, hrung⟩ := Option.bind_eq_some_iff.mp hrung
              obtain rfl := Option.some.inj hrung
              have HOnce := Aside0.mk (rung_once.calls k (fun k_ => some k_ = (u10).ownBlock) u10 s.2.1 y.f1 h8 w wr HM.out.below (Kd.R_tight rfl HU.out.1) honce)
              clear hrung honce
              go_wp2_with (first | (go_at_call 58; refine HOnce.out.mono ?_; rintro e w8 ⟨v8, rfl, ho8, hb8, hk8⟩; have H8 := Aside0.mk (And.intro ho8 (And.intro hb8 hk8)); clear ho8 hb8 hk8))
              go_roundg (go - 1)
              case measure => have := HKK.out; have := HGO.out; omega
              case rel => exact ⟨_, _, x + 1, (s.1, h8, s.2.2), st, _, cS, rfl, rfl, (by first | rfl | rw [hw]), ⟨by have := HKK.out; omega⟩, ⟨Mach.names_ HM.out HU.out.1 (fun k e => (HU.out.1.1 k e).1) H8.out.2.1 H8.out.2.2⟩, ⟨Rows2.put HU.out HM.out.nms H8.out.1 H8.out.2.2⟩, HRest⟩
          rw [if_neg o3] at hrung
          have t3 : (y.f0 == 3) = false := beq_eq_false_iff_ne.mpr o3
          by_cases o4 : y.f0 = 4
          · rw [if_pos o4] at hrung
            have t4 : (y.f0 == 4) = true := beq_iff_eq.mpr o4
            cases top with
            | true =>
              rw [if_pos rfl] at hrung
              obtain rfl := Option.some.inj hrung
              clear hrung
              go_wp2
              go_roundg (go - 1)
              case measure => have := HKK.out; have := HGO.out; omega
              case rel => exact ⟨_, _, x + 1, s, st, _, cS, rfl, rfl, (by first | rfl | rw [hw]), ⟨by have := HKK.out; omega⟩, ⟨Mach.step HM.out (by repeat (first | exact Below.refl _ _ | apply pw_below_drewN | apply below_drew1))⟩, ⟨Rows2.below HU.out (by repeat (first | exact Below.refl _ _ | apply pw_below_drewN | apply below_drew1))⟩, HRest⟩
            | false =>
              rw [if_neg (by decide)] at hrung
              obtain ⟨h8, honce, hrung⟩ := Option.bind_eq_some_iff.mp hrung
              obtain rfl := Option.some.inj hrung
              have HOnce := Aside0.mk (rung_once.calls k (fun k_ => some k_ = (u11).ownBlock) u11 s.2.2 y.f1 h8 w wr HM.out.below (Kd.R_tight rfl HU.out.swap.1) honce)
              clear hrung honce
              go_wp2_with (first | (go_at_call 58; refine HOnce.out.mono ?_; rintro e w8 ⟨v8, rfl, ho8, hb8, hk8⟩; have H8 := Aside0.mk (And.intro ho8 (And.intro hb8 hk8)); clear ho8 hb8 hk8))
              go_roundg (go - 1)
              case measure => have := HKK.out; have := HGO.out; omega
              case rel => exact ⟨_, _, x + 1, (s.1, s.2.1, h8), st, _, cS, rfl, rfl, (by first | rfl | rw [hw]), ⟨by have := HKK.out; omega⟩, ⟨Mach.names_ HM.out HU.out.swap.1 (fun k e => (HU.out.swap.1.1 k e).1) H8.out.2.1 H8.out.2.2⟩, ⟨(Rows2.put HU.out.swap HM.out.nms H8.out.1 H8.out.2.2).swap⟩, HRest⟩
          rw [if_neg o4] at hrung
          have t4 : (y.f0 == 4) = false := beq_eq_false_iff_ne.mpr o4
          obtain rfl := Option.some.inj hrung
          clear hrung
          go_wp2
          go_roundg (go - 1)
          case measure => have := HKK.out; have := HGO.out; omega
          case rel => exact ⟨_, _, x + 1, s, st, _, cS, rfl, rfl, (by first | rfl | rw [hw]), ⟨by have := HKK.out; omega⟩, ⟨Mach.step HM.out (by repeat (first | exact Below.refl _ _ | apply pw_below_drewN | apply below_drew1))⟩, ⟨Rows2.below HU.out (by repeat (first | exact Below.refl _ _ | apply pw_below_drewN | apply below_drew1))⟩, HRest⟩
    · have he : x = l0.length := by have := HK.out; omega
      subst he
      have f0 : decide ((l0.length : Int) < (l0.length : Int)) = false := decide_eq_false (by omega)
      have hrs := HRs.out
      rw [List.drop_eq_nil_of_le (by omega)] at hrs
      have hsr : s = r := by simpa [rungsF] using hrs
      subst hsr
      have hm1 : wr.cell? ⟨g, 1, none⟩ = some (.slice AB s.1.length cB) := (blk_cell HM.out.blk 1).trans rfl
      clear HK hlt hrs HRs
      go_wp2
      refine bodyPost_ret (results_tmp3 rfl _ _ _) rfl ?_
      exact ⟨_, _, _, rfl, HM.out.bts, Kd.R_mono HU.out.1 (fun k hk => hk.2), Kd.R_mono HU.out.2 (fun k hk => hk.2), HM.out.below⟩
set_option maxHeartbeats 8000000 in
set_option maxRecDepth 100000 in
theorem rung_Run.calls (k : Nat) (A0 : Option Addr) (c0 : Nat) (l0 : List (S43)) (A1 : Option Addr) (c1 : Nat) (l1 : List Bool) (A2 : Option Addr) (c2 : Nat) (l2 : List (S69)) (r1 : List Bool) (r2 r3 : List ByteArray) (w : World) (hr0 : Kd.C k43 w A0 l0.length l0) (hc0 : l0.length ≤ c0) (hr1 : Kd.C Kd.bool w A1 l1.length l1) (hc1 : l1.length ≤ c1) (hr2 : Kd.C k69 w A2 l2.length l2) (hc2 : l2.length ≤ c2) (h : rung_Run.f k l0 l1 l2 = some (r1, r2, r3)) (hT : UT w) :
  Calls Tryd.prog 31 #[.slice A0 l0.length c0, .slice A1 l1.length c1, .slice A2 l2.length c2] w fun e w' => ∃ v0_ v1_ v2_ : Value, e = .returned (.tuple #[v0_, v1_, v2_]) ∧ Kd.R Kd.bool 4 w' w.heap.size (fun _ => True) v0_ r1 ∧ Kd.R Kd.string 9 w' w.heap.size (fun k_ => some k_ ≠ (v2_ : Value).ownBlock) v1_ r2 ∧ Kd.R Kd.string 9 w' w.heap.size (fun k_ => some k_ ≠ (v1_ : Value).ownBlock) v2_ r3 ∧ Below w.heap.size w w' := by
 unfold rung_Run.f at h
 obtain ⟨nm, hbi, h⟩ := Option.bind_eq_some_iff.mp h
 obtain ⟨bs, hcl, h⟩ := Option.bind_eq_some_iff.mp h
 obtain rfl := clone_f hcl
 by_cases hne : bs.length = nm.length
 ·rw [if_pos hne] at h
  obtain ⟨e, he, h⟩ := Option.bind_eq_some_iff.mp h
  by_cases h0 : e = 0
  ·rw [if_pos h0] at h
   subst h0
   exact Run_main k A0 c0 l0 A1 c1 bs A2 c2 l2 nm (r1, r2, r3) w hr0 hc0 hr1 hc1 hr2 hc2 hT hbi hcl hne he h
  ·rw [if_neg h0] at h
   simp at h
   obtain ⟨rfl, rfl, rfl⟩ := h
   exact Run_bad k A0 c0 l0 A1 c1 bs A2 c2 l2 nm e w hr0 hc0 hr1 hc1 hr2 hc2 hT hbi hcl hne he h0
 ·rw [if_neg hne] at h
  simp at h
  obtain ⟨rfl, rfl, rfl⟩ := h
  exact Run_len k A0 c0 l0 A1 c1 bs A2 c2 l2 nm w hr0 hc0 hr1 hc1 hr2 hc2 hbi hcl hne
end Go.Proofs.YtiaccdaeomaogaaDoor.F
namespace Go.Proofs.YtiaccdaeomaogaaDoor.F
open Go.RowKit Go.Proofs.YtiaccdaeomaogaaDoorW.PrintWords Go.Proofs.YtiaccdaeomaogaaDoorW.PrintLast Go.Proofs.YtiaccdaeomaogaaDoorW.PrintMore
set_option linter.unusedVariables false
set_option linter.unusedSimpArgs false
theorem ft {p q : Option Int} : (if false = true then p else q) = q := if_neg (by decide)
def namedP (op : Int) : Bool × Int × Int × Bool :=
  if op = 0 ∨ op = 1 then (true, 0, 1, true) else if op = 2 then (false, 0, 1, true) else if op = 3 ∨ op = 4 ∨ op = 5 ∨ op = 6 then (true, 1, 1, true) else if op = 7 ∨ op = 8 then (false, 2, 1, true) else if op = 9 then (false, 1, 1, true) else (false, 0, 0, false)
theorem named_tot (op : Int) : Tot (fun k => rung_named.f k op) (namedP op) := by
  refine ⟨3, fun k hk => ?_⟩
  obtain ⟨j, rfl⟩ : ∃ j, k = j + 3 := ⟨k - 3, by omega⟩
  by_cases h0 : op = 0; · subst h0; simp [rung_named.f, rung_named.j0, namedP]
  by_cases h1 : op = 1; · subst h1; simp [rung_named.f, rung_named.j0, namedP]
  by_cases h2 : op = 2; · subst h2; simp [rung_named.f, rung_named.j0, namedP]
  by_cases h3 : op = 3; · subst h3; simp [rung_named.f, rung_named.j0, rung_named.j1, namedP]
  by_cases h4 : op = 4; · subst h4; simp [rung_named.f, rung_named.j0, rung_named.j1, namedP]
  by_cases h5 : op = 5; · subst h5; simp [rung_named.f, rung_named.j0, rung_named.j1, namedP]
  by_cases h6 : op = 6; · subst h6; simp [rung_named.f, rung_named.j0, rung_named.j1, namedP]
  by_cases h7 : op = 7; · subst h7; simp [rung_named.f, rung_named.j0, rung_named.j1, rung_named.j2, namedP]
  by_cases h8 : op = 8; · subst h8; simp [rung_named.f, rung_named.j0, rung_named.j1, rung_named.j2, namedP]
  by_cases h9 : op = 9; · subst h9; simp [rung_named.f, rung_named.j0, rung_named.j1, rung_named.j2, namedP]
  simp [rung_named.f, rung_named.j0, rung_named.j1, rung_named.j2, namedP, h0, h1, h2, h3, h4, h5, h6, h7, h8, h9]
theorem namedP_bd (op : Int) : 0 ≤ (namedP op).2.1 ∧ (namedP op).2.1 ≤ 2 ∧ 0 ≤ (namedP op).2.2.1 ∧ (namedP op).2.2.1 ≤ 1 := by
  unfold namedP
  repeat' split
  all_goals decide
def MayP (x : S34) : Prop := Tot (fun k => expr_May.f k x.f0 x.f1 x.f2 x.f3) true
def StepOk (nm : List ByteArray) (n : Int) (x : S40) : Prop :=
  ((namedP x.f0).2.2.2 = true ∧ ((namedP x.f0).1 = true ∨ x.f1.toList = []) ∧ (x.f0 = 2 ∨ rung_blank.f x.f2.f0 x.f2.f1 x.f2.f2 x.f2.f3 = some true)) ∧
  ((namedP x.f0).1 = true → 0 ≤ ixF nm x.f1 0) ∧ (x.f0 = 2 → MayP x.f2) ∧ (namedP x.f0).2.1 ≤ n ∧ n - (namedP x.f0).2.1 + (namedP x.f0).2.2.1 ≤ 8
def Res (F : Nat → Option Int) (c : Prop) (N : Nat → Option Int) : Prop := (∃ e, e ≠ 0 ∧ Tot F e ∧ ¬ c) ∨ (c ∧ ∀ v, Tot N v → Tot F v)
theorem Res.to {F F' N : Nat → Option Int} {c c' : Prop} (h : Res F c N) (g : ∀ v, Tot F v → Tot F' v) (e : c ↔ c') : Res F' c' N := by
  rcases h with ⟨e1, e2, e3, e4⟩ | ⟨h1, h2⟩
  · exact .inl ⟨e1, e2, g _ e3, fun h => e4 (e.mpr h)⟩
  · exact .inr ⟨e.mp h1, fun v hv => g _ (h2 v hv)⟩
theorem Res.bad {F N : Nat → Option Int} {c : Prop} {e : Int} (he : e ≠ 0) (h : Tot F e) (hc : ¬ c) : Res F c N := .inl ⟨e, he, h, hc⟩
theorem blank_tot (a b : Int) (c : ByteArray) (d : List S34) : ∃ v, rung_blank.f a b c d = some v := by
  unfold rung_blank.f
  repeat' split
  all_goals exact ⟨_, rfl⟩
theorem code_step (nm : List ByteArray) (hnm : nm.length < 9223372036854775807) (l : List S40) (i : Nat) (hi : i < l.length) (hl : l.length ≤ 50) (n : Int) (h0 : 0 ≤ n) (h8 : n ≤ 8) (hE : OkE (rd_T40 l (i : Int)).f2) :
    Res (fun k => rung_codeN.l0 k nm [] n l (l.length : Int) (i : Int)) (StepOk nm n (rd_T40 l (i : Int))) (fun k => rung_codeN.l0 k nm [] (n - (namedP (rd_T40 l (i : Int)).f0).2.1 + (namedP (rd_T40 l (i : Int)).f0).2.2.1) l (l.length : Int) ((i + 1 : Nat) : Int)) := by
  obtain ⟨x, hx⟩ : ∃ x, rd_T40 l (i : Int) = x := ⟨_, rfl⟩
  rw [hx] at hE ⊢
  obtain ⟨b1, b2, b3, b4⟩ := namedP_bd x.f0
  have hnt := named_tot x.f0
  unfold StepOk
  obtain ⟨bit, need, leave, ok, hP⟩ : ∃ bit need leave ok, namedP x.f0 = (bit, need, leave, ok) := ⟨_, _, _, _, rfl⟩
  rw [hP] at b1 b2 b3 b4 hnt ⊢
  simp only [] at b1 b2 b3 b4
  show Res _ ((ok = true ∧ (bit = true ∨ x.f1.toList = []) ∧ (x.f0 = 2 ∨ rung_blank.f x.f2.f0 x.f2.f1 x.f2.f2 x.f2.f3 = some true)) ∧ (bit = true → 0 ≤ ixF nm x.f1 0) ∧ (x.f0 = 2 → MayP x.f2) ∧ need ≤ n ∧ n - need + leave ≤ 8) (fun k => rung_codeN.l0 k nm [] (n - need + leave) l (l.length : Int) ((i + 1 : Nat) : Int))
  have e1 : wrap64 (n - need) = n - need := by unfold wrap64; omega
  have e2 : wrap64 (n - need + leave) = n - need + leave := by unfold wrap64; omega
  have e3 : wrap64 (n + wrap64 (leave - need)) = n - need + leave := by unfold wrap64; omega
  have J4 : ∀ b : Bool, Res (fun k => rung_codeN.j4 k nm [] n need leave l (l.length : Int) (i : Int) b) (b = false ∧ need ≤ n ∧ n - need + leave ≤ 8) (fun k => rung_codeN.l0 k nm [] (n - need + leave) l (l.length : Int) ((i + 1 : Nat) : Int)) := by
    intro b
    cases b with
    | true => exact Res.bad (e := 1) (by decide) (Tot.succ (by simp only [rung_codeN.j4, if_true]; exact Tot.const _)) (fun h => by cases h.1)
    | false =>
      by_cases g1 : n < need
      · exact Res.bad (e := 1) (by decide) (Tot.succ (by simp only [rung_codeN.j4, ft, if_pos g1]; exact Tot.const _)) (fun h => by omega)
      by_cases g2 : n - need + leave > 8
      · exact Res.bad (e := 1) (by decide) (Tot.succ (by simp only [rung_codeN.j4, ft, if_neg g1, e1, e2, if_pos g2]; exact Tot.const _)) (fun h => by omega)
      refine .inr ⟨⟨rfl, by omega, by omega⟩, fun v hv => Tot.succ ?_⟩
      simp only [rung_codeN.j4, ft, if_neg g1, e1, e2, if_neg g2, e3, w1 (show 0 ≤ (i : Int) by omega) (show (i : Int) < 9223372036854775807 by omega)]
      exact hv
  have J3 : ∀ b : Bool, Res (fun k => rung_codeN.j3 k nm [] n need leave l (l.length : Int) (i : Int) b x.f0 x.f1 x.f2.f0 x.f2.f1 x.f2.f2 x.f2.f3) (b = false ∧ (x.f0 = 2 → MayP x.f2) ∧ need ≤ n ∧ n - need + leave ≤ 8) (fun k => rung_codeN.l0 k nm [] (n - need + leave) l (l.length : Int) ((i + 1 : Nat) : Int)) := by
    intro b
    cases b with
    | true => exact Res.bad (e := 21) (by decide) (Tot.succ (by simp only [rung_codeN.j3, if_true]; exact Tot.const _)) (fun h => by cases h.1)
    | false =>
      by_cases o2 : x.f0 = 2
      · obtain ⟨m, hm, _⟩ := May_tot hE
        refine (J4 (!m)).to (fun v hv => Tot.succ ?_) ?_
        · simp only [rung_codeN.j3, ft, if_pos o2]; exact Tot.bind hm hv
        · constructor
          · exact fun h => ⟨rfl, (fun _ => by have h1 := h.1; cases m with | true => exact hm | false => cases h1), h.2⟩
          · exact fun h => ⟨by rw [Tot.uniq hm (h.2.1 o2)]; rfl, h.2.2⟩
      · refine (J4 false).to (fun v hv => Tot.succ ?_) ?_
        · simp only [rung_codeN.j3, ft, if_neg o2]; exact hv
        · exact ⟨fun h => ⟨rfl, fun h => absurd h o2, h.2⟩, fun h => ⟨rfl, h.2.2⟩⟩
  have J2 : ∀ b : Bool, Res (fun k => rung_codeN.j2 k nm [] n need leave l (l.length : Int) (i : Int) b x.f0 x.f1 x.f2.f0 x.f2.f1 x.f2.f2 x.f2.f3) (b = false ∧ (x.f0 = 2 → MayP x.f2) ∧ need ≤ n ∧ n - need + leave ≤ 8) (fun k => rung_codeN.l0 k nm [] (n - need + leave) l (l.length : Int) ((i + 1 : Nat) : Int)) := by
    intro b
    refine (J3 b).to (fun v hv => Tot.succ ?_) Iff.rfl
    cases b with
    | true => simp only [rung_codeN.j2, if_true]; exact hv
    | false =>
      by_cases o2 : x.f0 = 2
      · simp only [rung_codeN.j2, ft, if_pos o2]; exact Tot.bind (strangeN_tot hE []) hv
      · simp only [rung_codeN.j2, ft, if_neg o2]; exact hv
  have J1 : ∀ b : Bool, Res (fun k => rung_codeN.j1 k nm [] n bit need leave l (l.length : Int) (i : Int) b x.f0 x.f1 x.f2.f0 x.f2.f1 x.f2.f2 x.f2.f3) (b = false ∧ (bit = true → 0 ≤ ixF nm x.f1 0) ∧ (x.f0 = 2 → MayP x.f2) ∧ need ≤ n ∧ n - need + leave ≤ 8) (fun k => rung_codeN.l0 k nm [] (n - need + leave) l (l.length : Int) ((i + 1 : Nat) : Int)) := by
    intro b
    cases b with
    | true => exact Res.bad (e := 1) (by decide) (Tot.succ (by simp only [rung_codeN.j1, if_true]; exact Tot.const _)) (fun h => by cases h.1)
    | false =>
      cases bit with
      | true =>
        refine (J2 (!decide (ixF nm x.f1 0 ≥ 0))).to (fun v hv => Tot.succ ?_) ?_
        · simp only [rung_codeN.j1, ft, if_true]; exact Tot.bind (Contains_tot nm x.f1 hnm) hv
        · constructor
          · exact fun h => ⟨rfl, fun _ => by simpa using h.1, h.2⟩
          · exact fun h => ⟨by simpa using h.2.1 rfl, h.2.2⟩
      | false =>
        refine (J2 false).to (fun v hv => Tot.succ ?_) ?_
        · simp only [rung_codeN.j1, ft]; exact hv
        · exact ⟨fun h => ⟨rfl, (fun h => by cases h), h.2⟩, fun h => ⟨rfl, h.2.2⟩⟩
  obtain ⟨bk, hbk⟩ := blank_tot x.f2.f0 x.f2.f1 x.f2.f2 x.f2.f3
  have gl : (i : Int) < (l.length : Int) := by omega
  have g0 : 0 ≤ (i : Int) := by omega
  have up : ∀ (b : Bool) (v : Int), (∀ k, rung_codeN.l0 (k + 1) nm [] n l (l.length : Int) (i : Int) = (rung_named.f k x.f0).bind fun t => (rung_codeN.j1 k nm [] n t.1 t.2.1 t.2.2.1 l (l.length : Int) (i : Int) b x.f0 x.f1 x.f2.f0 x.f2.f1 x.f2.f2 x.f2.f3)) → Tot (fun k => rung_codeN.j1 k nm [] n bit need leave l (l.length : Int) (i : Int) b x.f0 x.f1 x.f2.f0 x.f2.f1 x.f2.f2 x.f2.f3) v → Tot (fun k => rung_codeN.l0 k nm [] n l (l.length : Int) (i : Int)) v := fun b v e hv => Tot.succ (Tot.cg (Tot.bind hnt hv) e)
  have main : ∃ b : Bool, (∀ v, Tot (fun k => rung_codeN.j1 k nm [] n bit need leave l (l.length : Int) (i : Int) b x.f0 x.f1 x.f2.f0 x.f2.f1 x.f2.f2 x.f2.f3) v → Tot (fun k => rung_codeN.l0 k nm [] n l (l.length : Int) (i : Int)) v) ∧ (b = false ↔ (ok = true ∧ (bit = true ∨ x.f1.toList = []) ∧ (x.f0 = 2 ∨ rung_blank.f x.f2.f0 x.f2.f1 x.f2.f2 x.f2.f3 = some true))) := by
    have L : ∀ (b : Bool), (∀ k, (fun bt103 : Bool × Int × Int × Bool => (if bt103.2.2.2 = true then (if bt103.1 = true then (if x.f0 = 2 then (rung_codeN.j1 k nm [] n bt103.1 bt103.2.1 bt103.2.2.1 l (l.length : Int) (i : Int) false x.f0 x.f1 x.f2.f0 x.f2.f1 x.f2.f2 x.f2.f3) else ((rung_blank.f x.f2.f0 x.f2.f1 x.f2.f2 x.f2.f3).bind fun t107 => (rung_codeN.j1 k nm [] n bt103.1 bt103.2.1 bt103.2.2.1 l (l.length : Int) (i : Int) (!t107) x.f0 x.f1 x.f2.f0 x.f2.f1 x.f2.f2 x.f2.f3))) else (if x.f1.toList = ([] : List UInt8) then (if x.f0 = 2 then (rung_codeN.j1 k nm [] n bt103.1 bt103.2.1 bt103.2.2.1 l (l.length : Int) (i : Int) false x.f0 x.f1 x.f2.f0 x.f2.f1 x.f2.f2 x.f2.f3) else ((rung_blank.f x.f2.f0 x.f2.f1 x.f2.f2 x.f2.f3).bind fun t108 => (rung_codeN.j1 k nm [] n bt103.1 bt103.2.1 bt103.2.2.1 l (l.length : Int) (i : Int) (!t108) x.f0 x.f1 x.f2.f0 x.f2.f1 x.f2.f2 x.f2.f3))) else (rung_codeN.j1 k nm [] n bt103.1 bt103.2.1 bt103.2.2.1 l (l.length : Int) (i : Int) (x.f1.toList != ([] : List UInt8)) x.f0 x.f1 x.f2.f0 x.f2.f1 x.f2.f2 x.f2.f3))) else (rung_codeN.j1 k nm [] n bt103.1 bt103.2.1 bt103.2.2.1 l (l.length : Int) (i : Int) (!bt103.2.2.2) x.f0 x.f1 x.f2.f0 x.f2.f1 x.f2.f2 x.f2.f3))) (bit, need, leave, ok) = rung_codeN.j1 k nm [] n bit need leave l (l.length : Int) (i : Int) b x.f0 x.f1 x.f2.f0 x.f2.f1 x.f2.f2 x.f2.f3) → ∀ v, Tot (fun k => rung_codeN.j1 k nm [] n bit need leave l (l.length : Int) (i : Int) b x.f0 x.f1 x.f2.f0 x.f2.f1 x.f2.f2 x.f2.f3) v → Tot (fun k => rung_codeN.l0 k nm [] n l (l.length : Int) (i : Int)) v := by
      intro b e v hv
      refine Tot.succ ?_
      simp only [rung_codeN.l0, if_pos gl, if_pos g0, hx]
      exact Tot.bind hnt (hv.cg e)
    cases ok with
    | false => exact ⟨true, L true (fun k => by simp), by simp⟩
    | true =>
      cases bit with
      | true =>
        by_cases o2 : x.f0 = 2
        · exact ⟨false, L false (fun k => by simp [o2]), by simp [o2]⟩
        · exact ⟨!bk, L (!bk) (fun k => by simp [o2, hbk]), by simp [o2, hbk]⟩
      | false =>
        by_cases hn : x.f1.toList = []
        · by_cases o2 : x.f0 = 2
          · exact ⟨false, L false (fun k => by simp [o2, hn]), by simp [o2, hn]⟩
          · exact ⟨!bk, L (!bk) (fun k => by simp [o2, hbk, hn]), by simp [o2, hbk, hn]⟩
        · have hb : (x.f1.toList != ([] : List UInt8)) = true := bne_iff_ne.mpr hn
          exact ⟨true, L true (fun k => by simp only [if_true, if_neg (show ¬ (false = true) by decide), if_neg hn, hb]), by simp [hn]⟩
  obtain ⟨b, hb, eb⟩ := main
  exact (J1 b).to hb (by rw [eb])
def Good (nm : List ByteArray) : Int → List S40 → Prop
  | n, [] => n = 1
  | n, x :: xs => StepOk nm n x ∧ Good nm (n - (namedP x.f0).2.1 + (namedP x.f0).2.2.1) xs
theorem drop40 {l : List S40} {i : Nat} (h : i < l.length) : l.drop i = rd_T40 l (i : Int) :: l.drop (i + 1) := by
  rw [List.drop_eq_getElem_cons h]
  unfold rd_T40; rw [Int.toNat_natCast, List.getD, List.getElem?_eq_getElem h]; rfl
theorem drop43 {l : List S43} {i : Nat} (h : i < l.length) : l.drop i = rd_T43 l (i : Int) :: l.drop (i + 1) := by
  rw [List.drop_eq_getElem_cons h]
  unfold rd_T43; rw [Int.toNat_natCast, List.getD, List.getElem?_eq_getElem h]; rfl
theorem rd40_mem {l : List S40} {i : Nat} (h : i < l.length) : rd_T40 l (i : Int) ∈ l := by
  unfold rd_T40; rw [Int.toNat_natCast, List.getD, List.getElem?_eq_getElem h]; exact List.getElem_mem h
theorem rd43_mem {l : List S43} {i : Nat} (h : i < l.length) : rd_T43 l (i : Int) ∈ l := by
  unfold rd_T43; rw [Int.toNat_natCast, List.getD, List.getElem?_eq_getElem h]; exact List.getElem_mem h
theorem code_l0 (nm : List ByteArray) (hnm : nm.length < 9223372036854775807) (l : List S40) (hl : l.length ≤ 50) (hE : ∀ x ∈ l, OkE x.f2) : ∀ (m i : Nat) (n : Int), i + m = l.length → 0 ≤ n → n ≤ 8 → ∃ e, Tot (fun k => rung_codeN.l0 k nm [] n l (l.length : Int) (i : Int)) e ∧ (e = 0 ↔ Good nm n (l.drop i))
  | 0, i, n, e, h0, h8 => by
    refine ⟨if n = 1 then 0 else 1, Tot.succ ?_, ?_⟩
    · simp only [rung_codeN.l0, if_neg (show ¬ (i : Int) < (l.length : Int) by omega)]
      split <;> exact Tot.const _
    · rw [List.drop_eq_nil_of_le (by omega)]
      unfold Good; split <;> simp_all
  | m + 1, i, n, e, h0, h8 => by
    have hi : i < l.length := by omega
    rw [drop40 hi]
    unfold Good
    rcases code_step nm hnm l i hi hl n h0 h8 (hE _ (rd40_mem hi)) with ⟨e1, e2, e3, e4⟩ | ⟨h1, h2⟩
    · exact ⟨e1, e3, ⟨fun h => absurd h e2, fun h => absurd h.1 e4⟩⟩
    · obtain ⟨b1, b2, b3, b4⟩ := namedP_bd (rd_T40 l (i : Int)).f0
      obtain ⟨v, hv, ev⟩ := code_l0 nm hnm l hl hE m (i + 1) _ (by omega) (by have := h1.2.2.2.1; omega) h1.2.2.2.2
      exact ⟨v, h2 v hv, ⟨fun h => ⟨h1, ev.mp h⟩, fun h => ev.mpr h.2⟩⟩
theorem code_tot (nm : List ByteArray) (hnm : nm.length < 9223372036854775807) (l : List S40) (hE : ∀ x ∈ l, OkE x.f2) : ∃ e, Tot (fun k => rung_codeN.f k l nm []) e ∧ (e = 0 ↔ l.length ≤ 12 ∧ Good nm 0 l) := by
  unfold rung_codeN.f
  by_cases h : (l.length : Int) > 12
  · simp only [if_pos h]; exact ⟨2, Tot.const _, ⟨fun h => by omega, fun h => by omega⟩⟩
  · simp only [if_neg h]
    obtain ⟨e, he, ee⟩ := code_l0 nm hnm l (by omega) hE l.length 0 0 (by omega) (by omega) (by omega)
    exact ⟨e, he, by rw [ee, List.drop_zero]; exact ⟨fun h => ⟨by omega, h⟩, fun h => h.2⟩⟩
def bitsS (acc : List ByteArray) (r : S43) : List ByteArray := if 0 ≤ r.f0 ∧ r.f0 ≤ 2 then onceP acc r.f1 else acc
def bitsP (l : List S43) : List ByteArray := l.foldl bitsS []
theorem bits_l0 (l : List S43) (hl : l.length ≤ 1000) : ∀ (m i : Nat) (acc : List ByteArray), i + m = l.length → acc.length ≤ i → Tot (fun k => rung_Bits.l0 k acc l (l.length : Int) (i : Int)) ((l.drop i).foldl bitsS acc)
  | 0, i, acc, e, ha => by
    refine Tot.succ ?_
    simp only [rung_Bits.l0, if_neg (show ¬ (i : Int) < (l.length : Int) by omega)]
    rw [List.drop_eq_nil_of_le (by omega)]; exact Tot.const _
  | m + 1, i, acc, e, ha => by
    have hi : i < l.length := by omega
    refine Tot.succ ?_
    rw [drop43 hi, List.foldl_cons]
    simp only [rung_Bits.l0, if_pos (show (i : Int) < (l.length : Int) by omega), if_pos (show 0 ≤ (i : Int) by omega), w1 (show 0 ≤ (i : Int) by omega) (show (i : Int) < 9223372036854775807 by omega)]
    unfold bitsS
    by_cases g0 : 0 ≤ (rd_T43 l (i : Int)).f0
    · by_cases g2 : (rd_T43 l (i : Int)).f0 ≤ 2
      · simp only [if_pos (show (rd_T43 l (i : Int)).f0 ≥ 0 from g0), if_pos g2, if_pos (And.intro g0 g2)]
        exact Tot.bind (once_tot acc _ (by omega)) (bits_l0 l hl m (i + 1) _ (by omega) (by have := (onceP_len acc (rd_T43 l (i : Int)).f1).1; omega))
      · simp only [if_pos (show (rd_T43 l (i : Int)).f0 ≥ 0 from g0), if_neg g2, if_neg (show ¬ (0 ≤ (rd_T43 l (i : Int)).f0 ∧ (rd_T43 l (i : Int)).f0 ≤ 2) from fun h => g2 h.2)]
        exact bits_l0 l hl m (i + 1) _ (by omega) (by omega)
    · simp only [if_neg (show ¬ (rd_T43 l (i : Int)).f0 ≥ 0 from g0), if_neg (show ¬ (0 ≤ (rd_T43 l (i : Int)).f0 ∧ (rd_T43 l (i : Int)).f0 ≤ 2) from fun h => g0 h.1)]
      exact bits_l0 l hl m (i + 1) _ (by omega) (by omega)
theorem bits_tot (l : List S43) (hl : l.length ≤ 1000) : Tot (fun k => rung_Bits.f k l) (bitsP l) := bits_l0 l hl l.length 0 [] (by omega) (by simp)
theorem bitsS_len : ∀ (l : List S43) (acc : List ByteArray), (l.foldl bitsS acc).length ≤ acc.length + l.length
  | [], acc => by simp
  | r :: rs, acc => by
    have h1 := bitsS_len rs (bitsS acc r)
    have h2 : (bitsS acc r).length ≤ acc.length + 1 := by unfold bitsS; split; exact (onceP_len _ _).1; omega
    simp only [List.foldl_cons, List.length_cons]; omega
theorem bitsP_len (l : List S43) : (bitsP l).length ≤ l.length := by have := bitsS_len l []; simpa [bitsP] using this
theorem onceP_mem (l : List ByteArray) (a : ByteArray) : ∃ y ∈ onceP l a, a.toList = y.toList := by
  unfold onceP
  by_cases h : 0 ≤ ixF l a 0
  · rw [if_pos h]; exact ixF_nonneg.mp h
  · rw [if_neg h]; exact ⟨a, by simp, rfl⟩
theorem onceP_sub (l : List ByteArray) (a : ByteArray) : ∀ y ∈ l, y ∈ onceP l a := fun y hy => by
  unfold onceP; split
  · exact hy
  · exact List.mem_append_left _ hy
theorem bitsS_sub : ∀ (l : List S43) (acc : List ByteArray), ∀ y ∈ acc, y ∈ l.foldl bitsS acc
  | [], acc, y, hy => hy
  | r :: rs, acc, y, hy => by
    rw [List.foldl_cons]
    refine bitsS_sub rs _ y ?_
    unfold bitsS; split
    · exact onceP_sub _ _ y hy
    · exact hy
theorem bitsS_mem : ∀ (l : List S43) (acc : List ByteArray), ∀ r ∈ l, 0 ≤ r.f0 → r.f0 ≤ 2 → ∃ y ∈ l.foldl bitsS acc, r.f1.toList = y.toList
  | r :: rs, acc, q, hq, h0, h2 => by
    rw [List.foldl_cons]
    rcases List.mem_cons.mp hq with rfl | hq
    · obtain ⟨y, hy, e⟩ := onceP_mem acc q.f1
      refine ⟨y, bitsS_sub rs _ y ?_, e⟩
      unfold bitsS; rw [if_pos ⟨h0, h2⟩]; exact hy
    · exact bitsS_mem rs _ q hq h0 h2
theorem bitsP_ix {l : List S43} {r : S43} (hr : r ∈ l) (h0 : 0 ≤ r.f0) (h2 : r.f0 ≤ 2) : 0 ≤ ixF (bitsP l) r.f1 0 := ixF_nonneg.mpr (bitsS_mem l [] r hr h0 h2)
def OkR (r : S43) : Prop := r.f1.size ≤ 200 ∧ r.f2.length ≤ 50 ∧ ∀ x ∈ r.f2, OkE x.f2
def RungOk (nm : List ByteArray) (r : S43) : Prop := 0 ≤ r.f0 ∧ r.f0 ≤ 4 ∧ lex_Name.f r.f1 = some true ∧ r.f2.length ≤ 12 ∧ Good nm 0 r.f2
theorem check_l0 (nm : List ByteArray) (hnm : nm.length < 9223372036854775807) (l : List S43) (hl : l.length ≤ 1000) (hR : ∀ r ∈ l, OkR r) : ∀ (m i : Nat), i + m = l.length → ∃ e, Tot (fun k => rung_checkN.l0 k [] nm l (l.length : Int) (i : Int)) e ∧ (e = 0 ↔ ∀ r ∈ l.drop i, RungOk nm r)
  | 0, i, e => by
    refine ⟨0, Tot.succ ?_, ?_⟩
    · simp only [rung_checkN.l0, if_neg (show ¬ (i : Int) < (l.length : Int) by omega)]; exact Tot.const _
    · rw [List.drop_eq_nil_of_le (by omega)]; simp
  | m + 1, i, e => by
    have hi : i < l.length := by omega
    rw [drop43 hi]
    obtain ⟨r, hr⟩ : ∃ r, rd_T43 l (i : Int) = r := ⟨_, rfl⟩
    have hO := hR _ (rd43_mem hi)
    rw [hr] at hO ⊢
    obtain ⟨v, hv, ev⟩ := check_l0 nm hnm l hl hR m (i + 1) (by omega)
    obtain ⟨c, hc, ec⟩ := code_tot nm hnm r.f2 hO.2.2
    obtain ⟨b, hb⟩ := Name_tot r.f1 (by have := hO.1; omega)
    have gl : (i : Int) < (l.length : Int) := by omega
    have g0 : 0 ≤ (i : Int) := by omega
    have T : Tot (fun k => rung_checkN.j1 k [] nm l (l.length : Int) (i : Int) true r.f0 r.f1 r.f2) 1 := Tot.succ (by simp only [rung_checkN.j1, if_true]; exact Tot.const _)
    by_cases k0 : r.f0 < 0
    · refine ⟨1, Tot.succ ?_, ⟨fun h => by omega, fun h => by have := (h r (.head _)).1; omega⟩⟩
      simp only [rung_checkN.l0, if_pos gl, if_pos g0, hr, if_pos k0]; exact T
    by_cases k4 : r.f0 > 4
    · refine ⟨1, Tot.succ ?_, ⟨fun h => by omega, fun h => by have := (h r (.head _)).2.1; omega⟩⟩
      simp only [rung_checkN.l0, if_pos gl, if_pos g0, hr, if_neg k0, if_pos k4]; exact T
    cases b with
    | false =>
      refine ⟨1, Tot.succ ?_, ⟨fun h => by omega, fun h => by have := (h r (.head _)).2.2.1; rw [hb] at this; cases this⟩⟩
      simp only [rung_checkN.l0, if_pos gl, if_pos g0, hr, if_neg k0, if_neg k4, hb, Option.bind_some, Bool.not_false]; exact T
    | true =>
      have J2 : Tot (fun k => rung_checkN.j2 k [] nm l (l.length : Int) (i : Int) false r.f0 r.f1 r.f2) (if c = 0 then v else c) := by
        refine Tot.succ ?_
        simp only [rung_checkN.j2, ft]
        refine Tot.bind hc ?_
        by_cases h : c = 0
        · simp only [if_pos h, w1 g0 (show (i : Int) < 9223372036854775807 by omega)]; exact hv
        · simp only [if_neg h]; exact Tot.const _
      refine ⟨if c = 0 then v else c, Tot.succ ?_, ?_⟩
      · simp only [rung_checkN.l0, if_pos gl, if_pos g0, hr, if_neg k0, if_neg k4, hb, Option.bind_some, Bool.not_true]
        refine Tot.succ ?_
        simp only [rung_checkN.j1, ft, Bool.not_true]
        split <;> exact J2
      · have key : RungOk nm r ↔ c = 0 := ⟨fun h => ec.mpr h.2.2.2, fun h => ⟨by omega, by omega, hb, (ec.mp h).1, (ec.mp h).2⟩⟩
        by_cases h : c = 0
        · rw [if_pos h, ev]
          exact ⟨fun g q hq => by rcases List.mem_cons.mp hq with rfl | hq; exact key.mpr h; exact g q hq, fun g q hq => g q (.tail _ hq)⟩
        · rw [if_neg h]
          exact ⟨fun g => absurd g h, fun g => key.mp (g r (.head _))⟩
def RunOk (l : List S43) : Prop := l.length ≤ 12 ∧ ∀ r ∈ l, RungOk (bitsP l) r
theorem check_tot (l : List S43) (hl : l.length ≤ 1000) (hR : ∀ r ∈ l, OkR r) : ∃ e, Tot (fun k => rung_checkN.f k l [] []) e ∧ (e = 0 ↔ RunOk l) := by
  unfold rung_checkN.f
  by_cases h : (l.length : Int) > 12
  · simp only [if_pos h]; exact ⟨2, Tot.const _, ⟨fun h => by omega, fun h => by have := h.1; omega⟩⟩
  · simp only [if_neg h]
    obtain ⟨e, he, ee⟩ := check_l0 (bitsP l) (by have := bitsP_len l; omega) l hl hR l.length 0 (by omega)
    exact ⟨e, Tot.bind (bits_tot l hl) he, by rw [ee, List.drop_zero]; exact ⟨fun h => ⟨by omega, h⟩, fun h => h.2⟩⟩
end Go.Proofs.YtiaccdaeomaogaaDoor.F
namespace Go.Proofs.YtiaccdaeomaogaaDoor.F
open Go.RowKit Go.Proofs.YtiaccdaeomaogaaDoorW.PrintWords Go.Proofs.YtiaccdaeomaogaaDoorW.PrintLast Go.Proofs.YtiaccdaeomaogaaDoorW.PrintMore
set_option linter.unusedVariables false
set_option linter.unusedSimpArgs false
open Classical in
noncomputable def evP (en : List S69) (x : S34) : Bool := if h : ∃ p, Tot (fun k => expr_Eval.f k x.f0 x.f1 x.f2 x.f3 en) p then (h.choose.2 == 0 && !(h.choose.1 == 0)) else false
theorem evP_eq {en : List S69} {x : S34} {p : Int × Int} (h : Tot (fun k => expr_Eval.f k x.f0 x.f1 x.f2 x.f3 en) p) : evP en x = (p.2 == 0 && !(p.1 == 0)) := by
  have hx : ∃ p, Tot (fun k => expr_Eval.f k x.f0 x.f1 x.f2 x.f3 en) p := ⟨p, h⟩
  unfold evP
  rw [dif_pos hx, Tot.uniq hx.choose_spec h]
def topP (st : List Bool) : Bool := rdOf false st ((st.length : Int) - 1)
def setP (st : List Bool) (b : Bool) : List Bool := st.set ((st.length : Int) - 1).toNat b
noncomputable def insP (nm : List ByteArray) (bs : List Bool) (en : List S69) (x : S40) (st : List Bool) : List Bool :=
  if x.f0 = 0 then st ++ [rdOf false bs (ixF nm x.f1 0)]
  else if x.f0 = 1 then st ++ [!rdOf false bs (ixF nm x.f1 0)]
  else if x.f0 = 2 then st ++ [evP en x.f2]
  else if x.f0 = 3 then setP st (topP st && rdOf false bs (ixF nm x.f1 0))
  else if x.f0 = 4 then setP st (topP st && !rdOf false bs (ixF nm x.f1 0))
  else if x.f0 = 5 then setP st (topP st || rdOf false bs (ixF nm x.f1 0))
  else if x.f0 = 6 then setP st (topP st || !rdOf false bs (ixF nm x.f1 0))
  else if x.f0 = 9 then setP st (!topP st)
  else if x.f0 = 7 then st.take ((st.length : Int) - 1 - 1).toNat ++ [rdOf false st ((st.length : Int) - 1 - 1) && topP st]
  else st.take ((st.length : Int) - 1 - 1).toNat ++ [rdOf false st ((st.length : Int) - 1 - 1) || topP st]
theorem idx_tot {nm : List ByteArray} {bs : List Bool} {name : ByteArray} (hnm : nm.length < 9223372036854775807) (hl : bs.length = nm.length) (h : 0 ≤ ixF nm name 0) : Tot (fun k => idxF k nm bs name) (ixF nm name 0) := by
  unfold idxF
  refine Tot.bind (Index_tot nm name hnm) ?_
  have := ixF_lt h
  simp only [if_pos (show 0 ≤ ixF nm name 0 ∧ ixF nm name 0 < (bs.length : Int) from ⟨h, by omega⟩)]
  exact Tot.const _
theorem named_cases {op : Int} (h : (namedP op).2.2.2 = true) : op = 0 ∨ op = 1 ∨ op = 2 ∨ op = 3 ∨ op = 4 ∨ op = 5 ∨ op = 6 ∨ op = 7 ∨ op = 8 ∨ op = 9 := by
  unfold namedP at h
  repeat' split at h
  all_goals first | omega | (cases h)
theorem ins_tot {nm : List ByteArray} {bs : List Bool} {en : List S69} {x : S40} {st : List Bool} (hnm : nm.length < 9223372036854775807) (hl : bs.length = nm.length) (he : OkC en) (hx : OkE x.f2) (hs : st.length ≤ 8) (h : StepOk nm st.length x) :
    Tot (fun k => insF k nm bs en x st) (insP nm bs en x st) ∧ ((insP nm bs en x st).length : Int) = (st.length : Int) - (namedP x.f0).2.1 + (namedP x.f0).2.2.1 := by
  obtain ⟨⟨hk, _, _⟩, hi, _, hn, _⟩ := h
  unfold insF insP
  simp only [if_pos (show st.length < 1000000 by omega)]
  rcases named_cases hk with o | o | o | o | o | o | o | o | o | o <;> rw [o] at hi hn ⊢
  · have hx := idx_tot hnm hl (hi rfl)
    simp only [if_true]
    exact ⟨Tot.bind hx (Tot.const _), by simp [namedP]⟩
  · have hx := idx_tot hnm hl (hi rfl)
    simp only [if_neg (show ¬ (1 : Int) = 0 by decide), if_true]
    exact ⟨Tot.bind hx (Tot.const _), by simp [namedP]⟩
  · obtain ⟨p, hp, _⟩ := Eval_tot hx he
    simp only [if_neg (show ¬ (2 : Int) = 0 by decide), if_neg (show ¬ (2 : Int) = 1 by decide), if_true, evP_eq hp]
    exact ⟨Tot.bind hp (Tot.const _), by simp [namedP]⟩
  all_goals have hn : _ ≤ (st.length : Int) := hn
  · have hx := idx_tot hnm hl (hi rfl)
    have hn : (1 : Int) ≤ (st.length : Int) := hn
    refine ⟨?_, by simp [namedP, setP]⟩
    simp only [if_neg (show ¬ (3 : Int) = 0 by decide), if_neg (show ¬ (3 : Int) = 1 by decide), if_neg (show ¬ (3 : Int) = 2 by decide), if_true, if_neg (show ¬ (st.length : Int) - 1 < 0 by omega)]
    unfold setP topP
    cases rdOf false st ((st.length : Int) - 1) with
    | true => simp only [if_true, Bool.true_and]; exact Tot.bind hx (Tot.const _)
    | false => simp only [if_neg (show ¬ (false = true) by decide), Bool.false_and]; exact Tot.const _
  · have hx := idx_tot hnm hl (hi rfl)
    have hn : (1 : Int) ≤ (st.length : Int) := hn
    refine ⟨?_, by simp [namedP, setP]⟩
    simp only [if_neg (show ¬ (4 : Int) = 0 by decide), if_neg (show ¬ (4 : Int) = 1 by decide), if_neg (show ¬ (4 : Int) = 2 by decide), if_neg (show ¬ (4 : Int) = 3 by decide), if_true, if_neg (show ¬ (st.length : Int) - 1 < 0 by omega)]
    unfold setP topP
    cases rdOf false st ((st.length : Int) - 1) with
    | true => simp only [if_true, Bool.true_and]; exact Tot.bind hx (Tot.const _)
    | false => simp only [if_neg (show ¬ (false = true) by decide), Bool.false_and]; exact Tot.const _
  · have hx := idx_tot hnm hl (hi rfl)
    have hn : (1 : Int) ≤ (st.length : Int) := hn
    refine ⟨?_, by simp [namedP, setP]⟩
    simp only [if_neg (show ¬ (5 : Int) = 0 by decide), if_neg (show ¬ (5 : Int) = 1 by decide), if_neg (show ¬ (5 : Int) = 2 by decide), if_neg (show ¬ (5 : Int) = 3 by decide), if_neg (show ¬ (5 : Int) = 4 by decide), if_true, if_neg (show ¬ (st.length : Int) - 1 < 0 by omega)]
    unfold setP topP
    cases rdOf false st ((st.length : Int) - 1) with
    | true => simp only [if_true, Bool.true_or]; exact Tot.const _
    | false => simp only [if_neg (show ¬ (false = true) by decide), Bool.false_or]; exact Tot.bind hx (Tot.const _)
  · have hx := idx_tot hnm hl (hi rfl)
    have hn : (1 : Int) ≤ (st.length : Int) := hn
    refine ⟨?_, by simp [namedP, setP]⟩
    simp only [if_neg (show ¬ (6 : Int) = 0 by decide), if_neg (show ¬ (6 : Int) = 1 by decide), if_neg (show ¬ (6 : Int) = 2 by decide), if_neg (show ¬ (6 : Int) = 3 by decide), if_neg (show ¬ (6 : Int) = 4 by decide), if_neg (show ¬ (6 : Int) = 5 by decide), if_true, if_neg (show ¬ (st.length : Int) - 1 < 0 by omega)]
    unfold setP topP
    cases rdOf false st ((st.length : Int) - 1) with
    | true => simp only [if_true, Bool.true_or]; exact Tot.const _
    | false => simp only [if_neg (show ¬ (false = true) by decide), Bool.false_or]; exact Tot.bind hx (Tot.const _)
  · have hn : (2 : Int) ≤ (st.length : Int) := hn
    refine ⟨?_, by simp [namedP]; omega⟩
    simp only [if_neg (show ¬ (7 : Int) = 0 by decide), if_neg (show ¬ (7 : Int) = 1 by decide), if_neg (show ¬ (7 : Int) = 2 by decide), if_neg (show ¬ (7 : Int) = 3 by decide), if_neg (show ¬ (7 : Int) = 4 by decide), if_neg (show ¬ (7 : Int) = 5 by decide), if_neg (show ¬ (7 : Int) = 6 by decide), if_neg (show ¬ (7 : Int) = 9 by decide), if_true, if_neg (show ¬ (st.length : Int) - 1 < 0 by omega), if_neg (show ¬ (st.length : Int) - 1 < 1 by omega)]
    exact Tot.const _
  · have hn : (2 : Int) ≤ (st.length : Int) := hn
    refine ⟨?_, by simp [namedP]; omega⟩
    simp only [if_neg (show ¬ (8 : Int) = 0 by decide), if_neg (show ¬ (8 : Int) = 1 by decide), if_neg (show ¬ (8 : Int) = 2 by decide), if_neg (show ¬ (8 : Int) = 3 by decide), if_neg (show ¬ (8 : Int) = 4 by decide), if_neg (show ¬ (8 : Int) = 5 by decide), if_neg (show ¬ (8 : Int) = 6 by decide), if_neg (show ¬ (8 : Int) = 9 by decide), if_neg (show ¬ (8 : Int) = 7 by decide), if_true, if_neg (show ¬ (st.length : Int) - 1 < 0 by omega), if_neg (show ¬ (st.length : Int) - 1 < 1 by omega)]
    exact Tot.const _
  · have hn : (1 : Int) ≤ (st.length : Int) := hn
    refine ⟨?_, by simp [namedP, setP]⟩
    simp only [if_neg (show ¬ (9 : Int) = 0 by decide), if_neg (show ¬ (9 : Int) = 1 by decide), if_neg (show ¬ (9 : Int) = 2 by decide), if_neg (show ¬ (9 : Int) = 3 by decide), if_neg (show ¬ (9 : Int) = 4 by decide), if_neg (show ¬ (9 : Int) = 5 by decide), if_neg (show ¬ (9 : Int) = 6 by decide), if_true, if_neg (show ¬ (st.length : Int) - 1 < 0 by omega)]
    exact Tot.const _
noncomputable def codeP (nm : List ByteArray) (bs : List Bool) (en : List S69) (l : List S40) (st : List Bool) : List Bool := l.foldl (fun st x => insP nm bs en x st) st
theorem code_run {nm : List ByteArray} {bs : List Bool} {en : List S69} (hnm : nm.length < 9223372036854775807) (hl : bs.length = nm.length) (he : OkC en) : ∀ (l : List S40) (st : List Bool), (∀ x ∈ l, OkE x.f2) → st.length ≤ 8 → Good nm st.length l → Tot (fun k => codeF k nm bs en l st) (codeP nm bs en l st) ∧ (codeP nm bs en l st).length = 1
  | [], st, hx, hs, hg => ⟨Tot.const _, by unfold Good at hg; exact Int.ofNat.inj hg⟩
  | x :: xs, st, hx, hs, hg => by
    unfold Good at hg
    obtain ⟨h1, h2⟩ := ins_tot hnm hl he (hx x (.head _)) hs hg.1
    rw [← h2] at hg
    obtain ⟨h3, h4⟩ := code_run hnm hl he xs _ (fun y hy => hx y (.tail _ hy)) (by have := hg.1.2.2.2.2; omega) hg.2
    exact ⟨Tot.bind h1 h3, h4⟩
noncomputable def isP (nm : List ByteArray) (bs : List Bool) (en : List S69) (r : S43) : Bool := rdOf false (codeP nm bs en r.f2 []) 0
noncomputable def rungP (nm : List ByteArray) (en : List S69) (s : List Bool × List ByteArray × List ByteArray) (r : S43) : List Bool × List ByteArray × List ByteArray :=
  if r.f0 = 0 then (s.1.set (ixF nm r.f1 0).toNat (isP nm s.1 en r), s.2.1, s.2.2)
  else if r.f0 = 1 then (if isP nm s.1 en r = true then (s.1.set (ixF nm r.f1 0).toNat true, s.2.1, s.2.2) else s)
  else if r.f0 = 2 then (if isP nm s.1 en r = true then (s.1.set (ixF nm r.f1 0).toNat false, s.2.1, s.2.2) else s)
  else if r.f0 = 3 then (if isP nm s.1 en r = true then s else (s.1, onceP s.2.1 r.f1, s.2.2))
  else (if isP nm s.1 en r = true then s else (s.1, s.2.1, onceP s.2.2 r.f1))
theorem rung_tot {nm : List ByteArray} {en : List S69} (hnm : nm.length < 9223372036854775807) (he : OkC en) {s : List Bool × List ByteArray × List ByteArray} {r : S43} (hl : s.1.length = nm.length) (hO : OkR r) (hr : RungOk nm r) (hix : r.f0 ≤ 2 → 0 ≤ ixF nm r.f1 0) (n1 : s.2.1.length < 8796093022208) (n2 : s.2.2.length < 8796093022208) :
    Tot (fun k => rungF k nm en r s) (rungP nm en s r) ∧ (rungP nm en s r).1.length = nm.length ∧ (rungP nm en s r).2.1.length ≤ s.2.1.length + 1 ∧ (rungP nm en s r).2.2.length ≤ s.2.2.length + 1 := by
  obtain ⟨c1, c2⟩ := code_run hnm hl he r.f2 [] hO.2.2 (by simp) hr.2.2.2.2
  constructor
  · unfold rungF rungP isP
    refine Tot.bind c1 ?_
    simp only [if_neg (show ¬ (codeP nm s.1 en r.f2 []).length = 0 by omega)]
    have k0 := hr.1
    have k4 := hr.2.1
    by_cases o0 : r.f0 = 0
    · simp only [if_pos o0]; exact Tot.bind (idx_tot hnm hl (hix (by omega))) (Tot.const _)
    by_cases o1 : r.f0 = 1
    · simp only [if_neg o0, if_pos o1]
      split
      · exact Tot.bind (idx_tot hnm hl (hix (by omega))) (Tot.const _)
      · exact Tot.const _
    by_cases o2 : r.f0 = 2
    · simp only [if_neg o0, if_neg o1, if_pos o2]
      split
      · exact Tot.bind (idx_tot hnm hl (hix (by omega))) (Tot.const _)
      · exact Tot.const _
    by_cases o3 : r.f0 = 3
    · simp only [if_neg o0, if_neg o1, if_neg o2, if_pos o3]
      split
      · exact Tot.const _
      · exact Tot.bind (once_tot _ _ n1) (Tot.const _)
    · have o4 : r.f0 = 4 := by omega
      simp only [if_neg o0, if_neg o1, if_neg o2, if_neg o3, if_pos o4]
      split
      · exact Tot.const _
      · exact Tot.bind (once_tot _ _ n2) (Tot.const _)
  · unfold rungP
    have a1 := (onceP_len s.2.1 r.f1).1
    have a2 := (onceP_len s.2.2 r.f1).1
    repeat' split
    all_goals refine ⟨?_, ?_, ?_⟩ <;> first | omega | (simp only [List.length_set]; omega)
noncomputable def rungsP (nm : List ByteArray) (en : List S69) (l : List S43) (s : List Bool × List ByteArray × List ByteArray) : List Bool × List ByteArray × List ByteArray := l.foldl (rungP nm en) s
theorem rungs_tot {nm : List ByteArray} {en : List S69} (hnm : nm.length < 9223372036854775807) (he : OkC en) : ∀ (l : List S43) (s : List Bool × List ByteArray × List ByteArray), s.1.length = nm.length → (∀ r ∈ l, OkR r) → (∀ r ∈ l, RungOk nm r) → (∀ r ∈ l, r.f0 ≤ 2 → 0 ≤ ixF nm r.f1 0) → s.2.1.length + l.length < 8796093022208 → s.2.2.length + l.length < 8796093022208 →
    Tot (fun k => rungsF k nm en l s) (rungsP nm en l s) ∧ (rungsP nm en l s).1.length = nm.length
  | [], s, hl, hO, hr, hi, n1, n2 => ⟨Tot.const _, hl⟩
  | r :: rs, s, hl, hO, hr, hi, n1, n2 => by
    simp only [List.length_cons] at n1 n2
    obtain ⟨h1, h2, h3, h4⟩ := rung_tot hnm he hl (hO r (.head _)) (hr r (.head _)) (hi r (.head _)) (by omega) (by omega)
    obtain ⟨g1, g2⟩ := rungs_tot hnm he rs _ h2 (fun q hq => hO q (.tail _ hq)) (fun q hq => hr q (.tail _ hq)) (fun q hq => hi q (.tail _ hq)) (by omega) (by omega)
    exact ⟨Tot.bind h1 g1, g2⟩
def RunIn (l : List S43) (bs : List Bool) : Prop := bs.length = (bitsP l).length ∧ RunOk l
theorem Run_tot {l : List S43} {bs : List Bool} {en : List S69} (hl : l.length ≤ 1000) (hR : ∀ r ∈ l, OkR r) (hb : bs.length < 1000000000) (he : OkC en) :
    (RunIn l bs ∧ Tot (fun k => rung_Run.f k l bs en) (rungsP (bitsP l) en l (bs, [], [])) ∧ (rungsP (bitsP l) en l (bs, [], [])).1.length = bs.length) ∨ (¬ RunIn l bs ∧ Tot (fun k => rung_Run.f k l bs en) ([], [], [])) := by
  have hnm : (bitsP l).length < 9223372036854775807 := by have := bitsP_len l; omega
  have hcl : slices_Clone_bool_bool.f bs = some bs := by unfold slices_Clone_bool_bool.f; rw [if_pos hb]
  obtain ⟨e, hE, eE⟩ := check_tot l hl hR
  have go : ∀ v, Tot (fun k => if bs.length = (bitsP l).length then ((rung_checkN.f k l [] []).bind fun e => if e = 0 then rungsF k (bitsP l) en l (bs, [], []) else some ([], [], [])) else some ([], [], [])) v → Tot (fun k => rung_Run.f k l bs en) v := fun v hv => by
    unfold rung_Run.f
    refine Tot.bind (bits_tot l hl) ?_
    simp only [hcl, Option.bind_some]
    exact hv
  by_cases h1 : bs.length = (bitsP l).length
  · by_cases h2 : e = 0
    · have hok := eE.mp h2
      obtain ⟨g1, g2⟩ := rungs_tot hnm he l (bs, [], []) h1 hR hok.2 (fun r hr h2 => bitsP_ix hr (hok.2 r hr).1 h2) (by simp; omega) (by simp; omega)
      refine .inl ⟨⟨h1, hok⟩, go _ ?_, g2.trans h1.symm⟩
      simp only [if_pos h1]
      refine Tot.bind hE ?_
      simp only [if_pos h2]; exact g1
    · refine .inr ⟨fun h => h2 (eE.mpr h.2), go _ ?_⟩
      simp only [if_pos h1]
      refine Tot.bind hE ?_
      simp only [if_neg h2]; exact Tot.const _
  · refine .inr ⟨fun h => h1 h.1, go _ ?_⟩
    simp only [if_neg h1]; exact Tot.const _
end Go.Proofs.YtiaccdaeomaogaaDoor.F
namespace Go.Proofs.YtiaccdaeomaogaaDoor.F
open Go.RowKit Go.Proofs.YtiaccdaeomaogaaDoorW.PrintWords Go.Proofs.YtiaccdaeomaogaaDoorW.PrintLast Go.Proofs.YtiaccdaeomaogaaDoorW.PrintMore Go.Deep
set_option linter.unusedVariables false
set_option linter.unusedSimpArgs false
section
variable {H : Type} {enc : TypeId × Value → H} {P : Program} {w : World} {base : Nat} {spare : Nat → Bool} {held : Bool}
theorem slice_cells {α : Type} {d : Kd α} {Ok : α → Prop} (z : α) {t e : TypeId} {fuel : Nat} {cs : List Value} {x : DataW H × List MemPlace} (ht : P.underlying t = some (.slice e)) (hc : P.cellsOf e = d.sz)
    (elem : ∀ n, n < fuel → ∀ cs x, DataW.trod enc P w base spare held n e cs = some x → ∃ y, d.K w y cs ∧ Ok y) (h : DataW.trod enc P w base spare held fuel t cs = some x) :
    ∃ (A : Option Addr) (c : Nat) (l : List α), cs = [.slice A l.length c] ∧ (l.length ≤ c ∧ l.length ≤ maxLen) ∧ d.C w A l.length l ∧ ∀ y ∈ l, Ok y := by
  rcases DataW.trod_slice ht h with ⟨hcs, _⟩ | ⟨ad, len, cap, elems, rest, n, hf, hcs, _, hb, hl, hm, hlen, hel, _⟩
  · exact ⟨none, 0, [], hcs, ⟨Nat.le_refl _, by simp⟩, ⟨rfl, by simp, fun h => absurd h (Nat.lt_irrefl 0)⟩, fun y hy => nomatch hy⟩
  · have hch : ∀ i, i < len → ∃ y : α, (∃ cs', w.cells? base (ad.add (i * d.sz)) d.sz = some cs' ∧ d.K w y cs') ∧ Ok y := by
      intro i hlt
      have h1 := hel i hlt
      rw [List.getElem?_eq_getElem (by omega)] at h1
      obtain ⟨cs', h2, h3⟩ := Option.bind_eq_some_iff.mp h1
      rw [hc] at h2
      obtain ⟨y, h4, h5⟩ := elem n (by omega) _ _ h3
      exact ⟨y, ⟨cs', h2, h4⟩, h5⟩
    haveI : Inhabited α := ⟨z⟩
    obtain ⟨Y, hY⟩ := choose_lt hch
    have hlY : ((List.range len).map Y).length = len := by simp
    refine ⟨some ad, cap, (List.range len).map Y, by rw [hlY]; exact hcs, ⟨by rw [hlY]; exact hl, by rw [hlY]; omega⟩, ⟨rfl, by rw [hlY]; unfold maxLen at hm; omega, fun _ => ⟨ad, rfl, fun j p hp => ?_⟩⟩, fun y hy => ?_⟩
    · rw [List.getElem?_map] at hp
      have hj : j < len := by
        by_cases hj : j < len
        · exact hj
        · rw [List.getElem?_eq_none (by simp; omega)] at hp; simp at hp
      rw [List.getElem?_range hj] at hp
      simp at hp
      subst hp
      obtain ⟨⟨cs', h1, h2⟩, _⟩ := hY j hj
      refine ⟨cs', d.K_len h2, h2, fun i u hu => ?_⟩
      have h3 := (World.cells?_some h1).2.2
      have hi : i < d.sz := by have := (List.getElem?_eq_some_iff.1 hu).1; rw [d.K_len h2] at this; exact this
      have h4 := h3 i hi
      rw [Deep.add_add] at h4
      exact h4.trans hu
    · obtain ⟨i, hi, rfl⟩ := List.mem_map.mp hy
      exact (hY i (List.mem_range.mp hi)).2
theorem wf_I64 {a : Int} (h : (Lit.int .i64 a).wf = true) : I64 a := by
  simp only [Lit.wf, Bool.and_eq_true, decide_eq_true_eq] at h
  have h1 : IntKind.min .i64 = -9223372036854775808 := by decide
  have h2 : IntKind.max .i64 = 9223372036854775807 := by decide
  unfold I64; omega
theorem len2 {α : Type} {l : List α} (h : l.length = 2) : ∃ a b, l = [a, b] := match l, h with | [a, b], _ => ⟨a, b, rfl⟩
theorem len3 {α : Type} {l : List α} (h : l.length = 3) : ∃ a b c, l = [a, b, c] := match l, h with | [a, b, c], _ => ⟨a, b, c, rfl⟩
theorem len4 {α : Type} {l : List α} (h : l.length = 4) : ∃ a b c d, l = [a, b, c, d] := match l, h with | [a, b, c, d], _ => ⟨a, b, c, d, rfl⟩
theorem len6 {α : Type} {l : List α} (h : l.length = 6) : ∃ a b c d e f, l = [a, b, c, d, e, f] := match l, h with | [a, b, c, d, e, f], _ => ⟨a, b, c, d, e, f, rfl⟩
theorem len8 {α : Type} {l : List α} (h : l.length = 8) : ∃ a b c d e f g i, l = [a, b, c, d, e, f, g, i] := match l, h with | [a, b, c, d, e, f, g, i], _ => ⟨a, b, c, d, e, f, g, i, rfl⟩
end
section
variable {H : Type} {enc : TypeId × Value → H} {w : World} {base : Nat} {spare : Nat → Bool} {held : Bool}
theorem cells_int : Tryd.prog.cellsOf 3 = 1 := by kernel_rfl
theorem cells_bool : Tryd.prog.cellsOf 4 = 1 := by kernel_rfl
theorem cells_str : Tryd.prog.cellsOf 9 = 1 := by kernel_rfl
theorem cells_sexpr : Tryd.prog.cellsOf 32 = 1 := by kernel_rfl
theorem cells_sins : Tryd.prog.cellsOf 41 = 1 := by kernel_rfl
theorem cells_expr : Tryd.prog.cellsOf 34 = 4 := by kernel_rfl
theorem cells_ins : Tryd.prog.cellsOf 40 = 6 := by kernel_rfl
theorem cells_rung : Tryd.prog.cellsOf 43 = 3 := by kernel_rfl
theorem cells_cell : Tryd.prog.cellsOf 69 = 2 := by kernel_rfl
theorem cells_step : Tryd.prog.cellsOf 67 = 8 := by kernel_rfl
theorem expr_item : ∀ (fuel : Nat) (cs : List Value) (x : DataW H × List MemPlace), DataW.trod enc Tryd.prog w base spare held fuel 34 cs = some x → ∃ y : S34, k34.K w y cs ∧ OkI y := by
  intro fuel
  induction fuel using Nat.strongRecOn with
  | _ fuel ih =>
  intro cs x h
  obtain ⟨xs, n, hn, _, hl, hx, hf⟩ := DataW.trod_struct Tryd.underlying34 h
  rw [cells_expr] at hl
  have hx4 : xs.length = 4 := hx
  have h0 : DataW.trod enc Tryd.prog w base spare held n 3 ((cs.drop 0).take (Tryd.prog.cellsOf 3)) = xs[0]? := hf 0 _ rfl
  have h1 : DataW.trod enc Tryd.prog w base spare held n 3 ((cs.drop 1).take (Tryd.prog.cellsOf 3)) = xs[1]? := hf 1 _ rfl
  have h2 : DataW.trod enc Tryd.prog w base spare held n 9 ((cs.drop 2).take (Tryd.prog.cellsOf 9)) = xs[2]? := hf 2 _ rfl
  have h3 : DataW.trod enc Tryd.prog w base spare held n 32 ((cs.drop 3).take (Tryd.prog.cellsOf 32)) = xs[3]? := hf 3 _ rfl
  rw [cells_int] at h0 h1
  rw [cells_str] at h2
  rw [cells_sexpr] at h3
  rw [List.getElem?_eq_getElem (by omega)] at h0 h1 h2 h3
  obtain ⟨a0, e0, _, w0⟩ := DataW.trod_int Tryd.underlying3 h0
  obtain ⟨a1, e1, _, w1⟩ := DataW.trod_int Tryd.underlying3 h1
  obtain ⟨a2, e2, _, w2⟩ := DataW.trod_string Tryd.underlying9 h2
  obtain ⟨A3, c3, l3, e3, lc, hC, hO⟩ := slice_cells (d := k34) (Ok := OkI) z34 Tryd.underlying32 (by rw [cells_expr]; rfl) (fun m hm => ih m (by omega)) h3
  obtain ⟨d0, d1, d2, d3, rfl⟩ := len4 hl
  simp at e0 e1 e2 e3
  rw [e0, e1, e2, e3]
  exact ⟨⟨a0, a1, a2, l3⟩, k34_mk w ⟨a0, a1, a2, l3⟩ lc.1 hC, OkI.mk _ (wf_I64 w1) hO⟩
theorem cell_item (fuel : Nat) (cs : List Value) (x : DataW H × List MemPlace) (h : DataW.trod enc Tryd.prog w base spare held fuel 69 cs = some x) : ∃ y : S69, k69.K w y cs ∧ I64 y.f1 := by
  obtain ⟨xs, n, hn, _, hl, hx, hf⟩ := DataW.trod_struct Tryd.underlying69 h
  rw [cells_cell] at hl
  have hx4 : xs.length = 2 := hx
  have h0 : DataW.trod enc Tryd.prog w base spare held n 9 ((cs.drop 0).take (Tryd.prog.cellsOf 9)) = xs[0]? := hf 0 _ rfl
  have h1 : DataW.trod enc Tryd.prog w base spare held n 3 ((cs.drop 1).take (Tryd.prog.cellsOf 3)) = xs[1]? := hf 1 _ rfl
  rw [cells_str] at h0
  rw [cells_int] at h1
  rw [List.getElem?_eq_getElem (by omega)] at h0 h1
  obtain ⟨a0, e0, _, w0⟩ := DataW.trod_string Tryd.underlying9 h0
  obtain ⟨a1, e1, _, w1⟩ := DataW.trod_int Tryd.underlying3 h1
  obtain ⟨d0, d1, rfl⟩ := len2 hl
  simp at e0 e1
  rw [e0, e1]
  exact ⟨⟨a0, a1⟩, k69_mk w ⟨a0, a1⟩, wf_I64 w1⟩
theorem ins_item (fuel : Nat) (cs : List Value) (x : DataW H × List MemPlace) (h : DataW.trod enc Tryd.prog w base spare held fuel 40 cs = some x) : ∃ y : S40, k40.K w y cs ∧ OkI y.f2 := by
  obtain ⟨xs, n, hn, _, hl, hx, hf⟩ := DataW.trod_struct Tryd.underlying40 h
  rw [cells_ins] at hl
  have hx4 : xs.length = 3 := hx
  have h0 : DataW.trod enc Tryd.prog w base spare held n 3 ((cs.drop 0).take (Tryd.prog.cellsOf 3)) = xs[0]? := hf 0 _ rfl
  have h1 : DataW.trod enc Tryd.prog w base spare held n 9 ((cs.drop 1).take (Tryd.prog.cellsOf 9)) = xs[1]? := hf 1 _ rfl
  have h2 : DataW.trod enc Tryd.prog w base spare held n 34 ((cs.drop 2).take (Tryd.prog.cellsOf 34)) = xs[2]? := hf 2 _ rfl
  rw [cells_int] at h0
  rw [cells_str] at h1
  rw [cells_expr] at h2
  rw [List.getElem?_eq_getElem (by omega)] at h0 h1 h2
  obtain ⟨a0, e0, _, w0⟩ := DataW.trod_int Tryd.underlying3 h0
  obtain ⟨a1, e1, _, w1⟩ := DataW.trod_string Tryd.underlying9 h1
  obtain ⟨y2, g2, o2⟩ := expr_item _ _ _ h2
  obtain ⟨A3, c3, e2, l3, g3⟩ := k34_open g2
  obtain ⟨d0, d1, d2, d3, d4, d5, rfl⟩ := len6 hl
  simp at e0 e1 e2
  obtain ⟨e20, e21, e22, e23⟩ := e2
  rw [e0, e1, e20, e21, e22, e23]
  exact ⟨⟨a0, a1, y2⟩, k40_mk w ⟨a0, a1, y2⟩ l3 g3, o2⟩
def InR (y : S43) : Prop := (∀ i ∈ y.f2, OkI i.f2) ∧ y.f2.length ≤ maxLen
theorem rung_item (fuel : Nat) (cs : List Value) (x : DataW H × List MemPlace) (h : DataW.trod enc Tryd.prog w base spare held fuel 43 cs = some x) : ∃ y : S43, k43.K w y cs ∧ InR y := by
  obtain ⟨xs, n, hn, _, hl, hx, hf⟩ := DataW.trod_struct Tryd.underlying43 h
  rw [cells_rung] at hl
  have hx4 : xs.length = 3 := hx
  have h0 : DataW.trod enc Tryd.prog w base spare held n 3 ((cs.drop 0).take (Tryd.prog.cellsOf 3)) = xs[0]? := hf 0 _ rfl
  have h1 : DataW.trod enc Tryd.prog w base spare held n 9 ((cs.drop 1).take (Tryd.prog.cellsOf 9)) = xs[1]? := hf 1 _ rfl
  have h2 : DataW.trod enc Tryd.prog w base spare held n 41 ((cs.drop 2).take (Tryd.prog.cellsOf 41)) = xs[2]? := hf 2 _ rfl
  rw [cells_int] at h0
  rw [cells_str] at h1
  rw [cells_sins] at h2
  rw [List.getElem?_eq_getElem (by omega)] at h0 h1 h2
  obtain ⟨a0, e0, _, w0⟩ := DataW.trod_int Tryd.underlying3 h0
  obtain ⟨a1, e1, _, w1⟩ := DataW.trod_string Tryd.underlying9 h1
  obtain ⟨A2, c2, l2, e2, lc, hC, hO⟩ := slice_cells (d := k40) (Ok := fun i => OkI i.f2) z40 Tryd.underlying41 (by rw [cells_ins]; rfl) (fun m _ => ins_item m) h2
  obtain ⟨d0, d1, d2, rfl⟩ := len3 hl
  simp at e0 e1 e2
  rw [e0, e1, e2]
  exact ⟨⟨a0, a1, l2⟩, k43_mk w ⟨a0, a1, l2⟩ lc.1 hC, hO, lc.2⟩
theorem step_item (fuel : Nat) (cs : List Value) (x : DataW H × List MemPlace) (h : DataW.trod enc Tryd.prog w base spare held fuel 67 cs = some x) : ∃ y : S67, k67.K w y cs ∧ OkI y.f3 ∧ I64 y.f4 := by
  obtain ⟨xs, n, hn, _, hl, hx, hf⟩ := DataW.trod_struct Tryd.underlying67 h
  rw [cells_step] at hl
  have hx4 : xs.length = 5 := hx
  have h0 : DataW.trod enc Tryd.prog w base spare held n 3 ((cs.drop 0).take (Tryd.prog.cellsOf 3)) = xs[0]? := hf 0 _ rfl
  have h1 : DataW.trod enc Tryd.prog w base spare held n 9 ((cs.drop 1).take (Tryd.prog.cellsOf 9)) = xs[1]? := hf 1 _ rfl
  have h2 : DataW.trod enc Tryd.prog w base spare held n 9 ((cs.drop 2).take (Tryd.prog.cellsOf 9)) = xs[2]? := hf 2 _ rfl
  have h3 : DataW.trod enc Tryd.prog w base spare held n 34 ((cs.drop 3).take (Tryd.prog.cellsOf 34)) = xs[3]? := hf 3 _ rfl
  have h4 : DataW.trod enc Tryd.prog w base spare held n 3 ((cs.drop 7).take (Tryd.prog.cellsOf 3)) = xs[4]? := hf 4 _ rfl
  rw [cells_int] at h0 h4
  rw [cells_str] at h1 h2
  rw [cells_expr] at h3
  rw [List.getElem?_eq_getElem (by omega)] at h0 h1 h2 h3 h4
  obtain ⟨a0, e0, _, w0⟩ := DataW.trod_int Tryd.underlying3 h0
  obtain ⟨a1, e1, _, w1⟩ := DataW.trod_string Tryd.underlying9 h1
  obtain ⟨a2, e2, _, w2⟩ := DataW.trod_string Tryd.underlying9 h2
  obtain ⟨a4, e4, _, w4⟩ := DataW.trod_int Tryd.underlying3 h4
  obtain ⟨y3, q3, o3⟩ := expr_item _ _ _ h3
  obtain ⟨A3, c3, e3, l3, g3⟩ := k34_open q3
  obtain ⟨d0, d1, d2, d3, d4, d5, d6, d7, rfl⟩ := len8 hl
  simp at e0 e1 e2 e3 e4
  obtain ⟨e30, e31, e32, e33⟩ := e3
  rw [e0, e1, e2, e30, e31, e32, e33, e4]
  exact ⟨⟨a0, a1, a2, y3, a4⟩, k67_mk w ⟨a0, a1, a2, y3, a4⟩ l3 g3, o3, wf_I64 w4⟩
theorem str_item (fuel : Nat) (cs : List Value) (x : DataW H × List MemPlace) (h : DataW.trod enc Tryd.prog w base spare held fuel 9 cs = some x) : ∃ y : ByteArray, Kd.string.K w y cs ∧ y.size ≤ maxLen := by
  obtain ⟨a, e, _, wf⟩ := DataW.trod_string Tryd.underlying9 h
  exact ⟨a, e, wf⟩
theorem bool_item (fuel : Nat) (cs : List Value) (x : DataW H × List MemPlace) (h : DataW.trod enc Tryd.prog w base spare held fuel 4 cs = some x) : ∃ y : Bool, Kd.bool.K w y cs ∧ True := by
  obtain ⟨a, e, _⟩ := DataW.trod_bool Tryd.underlying4 h
  exact ⟨a, e, trivial⟩
theorem slice_val {a : Option Addr} {len cap : Nat} {α : Type} {d : Kd α} {Ok : α → Prop} (h : ∃ (A : Option Addr) (c : Nat) (l : List α), (Value.cells (.slice a len cap)).toList = [.slice A l.length c] ∧ (l.length ≤ c ∧ l.length ≤ maxLen) ∧ d.C w A l.length l ∧ ∀ y ∈ l, Ok y) :
    ∃ l : List α, l.length = len ∧ (l.length ≤ cap ∧ l.length ≤ maxLen) ∧ d.C w a l.length l ∧ ∀ y ∈ l, Ok y := by
  obtain ⟨A, c, l, e, h1, h2, h3⟩ := h
  simp [Value.cells] at e
  obtain ⟨rfl, rfl, rfl⟩ := e
  exact ⟨l, rfl, h1, h2, h3⟩
theorem rungs_open {fuel : Nat} {a : Option Addr} {len cap : Nat} {x : DataW H × List MemPlace} (h : DataW.trod enc Tryd.prog w base spare held fuel 22 (Value.cells (.slice a len cap)).toList = some x) :
    ∃ l : List S43, l.length = len ∧ (l.length ≤ cap ∧ l.length ≤ maxLen) ∧ Kd.C k43 w a l.length l ∧ ∀ y ∈ l, InR y :=
  slice_val (slice_cells z43 Tryd.underlying22 (by rw [cells_rung]; rfl) (fun m _ => rung_item m) h)
theorem cells_open {fuel : Nat} {a : Option Addr} {len cap : Nat} {x : DataW H × List MemPlace} (h : DataW.trod enc Tryd.prog w base spare held fuel 35 (Value.cells (.slice a len cap)).toList = some x) :
    ∃ l : List S69, l.length = len ∧ (l.length ≤ cap ∧ l.length ≤ maxLen) ∧ Kd.C k69 w a l.length l ∧ ∀ y ∈ l, I64 y.f1 :=
  slice_val (slice_cells z69 Tryd.underlying35 (by rw [cells_cell]; rfl) (fun m _ => cell_item m) h)
theorem steps_open {fuel : Nat} {a : Option Addr} {len cap : Nat} {x : DataW H × List MemPlace} (h : DataW.trod enc Tryd.prog w base spare held fuel 55 (Value.cells (.slice a len cap)).toList = some x) :
    ∃ l : List S67, l.length = len ∧ (l.length ≤ cap ∧ l.length ≤ maxLen) ∧ Kd.C k67 w a l.length l ∧ ∀ y ∈ l, OkI y.f3 ∧ I64 y.f4 :=
  slice_val (slice_cells z67 Tryd.underlying55 (by rw [cells_step]; rfl) (fun m _ => step_item m) h)
theorem strs_open {fuel : Nat} {a : Option Addr} {len cap : Nat} {x : DataW H × List MemPlace} (h : DataW.trod enc Tryd.prog w base spare held fuel 23 (Value.cells (.slice a len cap)).toList = some x) :
    ∃ l : List ByteArray, l.length = len ∧ (l.length ≤ cap ∧ l.length ≤ maxLen) ∧ Kd.C Kd.string w a l.length l ∧ ∀ y ∈ l, y.size ≤ maxLen :=
  slice_val (slice_cells ByteArray.empty Tryd.underlying23 (by rw [cells_str]; rfl) (fun m _ => str_item m) h)
theorem bools_open {fuel : Nat} {a : Option Addr} {len cap : Nat} {x : DataW H × List MemPlace} (h : DataW.trod enc Tryd.prog w base spare held fuel 46 (Value.cells (.slice a len cap)).toList = some x) :
    ∃ l : List Bool, l.length = len ∧ (l.length ≤ cap ∧ l.length ≤ maxLen) ∧ Kd.C Kd.bool w a l.length l ∧ ∀ y ∈ l, True :=
  slice_val (slice_cells false Tryd.underlying46 (by rw [cells_bool]; rfl) (fun m _ => bool_item m) h)
end
end Go.Proofs.YtiaccdaeomaogaaDoor.F
namespace Go.Proofs.YtiaccdaeomaogaaDoor.F
open Go.RowKit Go.Proofs.YtiaccdaeomaogaaDoorW.PrintWords Go.Proofs.YtiaccdaeomaogaaDoorW.PrintLast Go.Proofs.YtiaccdaeomaogaaDoorW.PrintMore
attribute [local go_sem] max2_int min2_int max_two min_two max_three min_three max_four min_four   -- for this text's walks alone
set_option linter.unusedVariables false
set_option linter.unusedSimpArgs false
mutual
def malthouseref09_Light.l0 : Nat → List (S43) → Int → Option (Bool)
  | 0, _, _ => none
  | k + 1, x0, x3 => if x3 < (x0.length : Int) then (if 0 ≤ x3 then (if (((rd_T43 x0 x3).f2).length : Int) > 50 then (malthouseref09_Light.j1 k x0 x3 true) else (malthouseref09_Light.j1 k x0 x3 (decide ((((rd_T43 x0 x3).f1).size : Int) > 200)))) else (none)) else (some true)
def malthouseref09_Light.j1 : Nat → List (S43) → Int → Bool → Option (Bool)
  | 0, _, _, _ => none
  | k + 1, x0, x3, x29 => if x29 = true then (some false) else (malthouseref09_Light.l1 k x0 x3 0)
def malthouseref09_Light.l1 : Nat → List (S43) → Int → Int → Option (Bool)
  | 0, _, _, _ => none
  | k + 1, x0, x3, x4 => if 0 ≤ x3 then (if x3 < (x0.length : Int) then (if x4 < (((rd_T43 x0 x3).f2).length : Int) then (if 0 ≤ x4 then (if (((rd_T40 ((rd_T43 x0 x3).f2) x4).f1).size : Int) > 200 then (some false) else ((malthouseref02_Weight.f k ((rd_T40 ((rd_T43 x0 x3).f2) x4).f2.f0) ((rd_T40 ((rd_T43 x0 x3).f2) x4).f2.f1) ((rd_T40 ((rd_T43 x0 x3).f2) x4).f2.f2) ((rd_T40 ((rd_T43 x0 x3).f2) x4).f2.f3) 200).bind fun t108 => (if t108 = 0 then (some false) else (malthouseref09_Light.l1 k x0 x3 (wrap64 (x4 + 1)))))) else (none)) else (malthouseref09_Light.l0 k x0 (wrap64 (x3 + 1)))) else (none)) else (none)
end
def malthouseref09_Light.f (k : Nat) (l0 : List (S43)) : Option (Bool) := if (l0.length : Int) > 50 then (some false) else (malthouseref09_Light.l0 k l0 0)
theorem malthouseref09_Light.mono_l : ∀ k, (∀ y0 y1, LeO (malthouseref09_Light.l0 k y0 y1) (malthouseref09_Light.l0 (k + 1) y0 y1)) ∧ (∀ y0 y1 y2, LeO (malthouseref09_Light.j1 k y0 y1 y2) (malthouseref09_Light.j1 (k + 1) y0 y1 y2)) ∧ (∀ y0 y1 y2, LeO (malthouseref09_Light.l1 k y0 y1 y2) (malthouseref09_Light.l1 (k + 1) y0 y1 y2))
  | 0 => ⟨fun _ _ r h => by simp [malthouseref09_Light.l0] at h, fun _ _ _ r h => by simp [malthouseref09_Light.j1] at h, fun _ _ _ r h => by simp [malthouseref09_Light.l1] at h⟩
  | k + 1 => by
    obtain ⟨ih0, ih1, ih2⟩ := malthouseref09_Light.mono_l k
    refine ⟨?_, ?_, ?_⟩
    · intro y0 y1
      unfold malthouseref09_Light.l0
      repeat' first
      | (with_reducible exact ih0 _ _)
      | (with_reducible exact ih1 _ _ _)
      | (with_reducible exact ih2 _ _ _)
      | (with_reducible exact malthouseref02_Weight.mono _ _ _ _ _ _)
      | (with_reducible exact LeO.refl _)
      | (with_reducible exact LeO.none _)
      | (with_reducible refine LeO.ite ?_ ?_)
      | (with_reducible refine LeO.bind ?_ (fun _ => ?_))
      | exact ih0 _ _
      | exact ih1 _ _ _
      | exact ih2 _ _ _
      | exact malthouseref02_Weight.mono _ _ _ _ _ _
      | exact LeO.none _
      | refine LeO.ite ?_ ?_
      | refine LeO.bind ?_ (fun _ => ?_)
    · intro y0 y1 y2
      unfold malthouseref09_Light.j1
      repeat' first
      | (with_reducible exact ih0 _ _)
      | (with_reducible exact ih1 _ _ _)
      | (with_reducible exact ih2 _ _ _)
      | (with_reducible exact malthouseref02_Weight.mono _ _ _ _ _ _)
      | (with_reducible exact LeO.refl _)
      | (with_reducible exact LeO.none _)
      | (with_reducible refine LeO.ite ?_ ?_)
      | (with_reducible refine LeO.bind ?_ (fun _ => ?_))
      | exact ih0 _ _
      | exact ih1 _ _ _
      | exact ih2 _ _ _
      | exact malthouseref02_Weight.mono _ _ _ _ _ _
      | exact LeO.none _
      | refine LeO.ite ?_ ?_
      | refine LeO.bind ?_ (fun _ => ?_)
    · intro y0 y1 y2
      unfold malthouseref09_Light.l1
      repeat' first
      | (with_reducible exact ih0 _ _)
      | (with_reducible exact ih1 _ _ _)
      | (with_reducible exact ih2 _ _ _)
      | (with_reducible exact malthouseref02_Weight.mono _ _ _ _ _ _)
      | (with_reducible exact LeO.refl _)
      | (with_reducible exact LeO.none _)
      | (with_reducible refine LeO.ite ?_ ?_)
      | (with_reducible refine LeO.bind ?_ (fun _ => ?_))
      | exact ih0 _ _
      | exact ih1 _ _ _
      | exact ih2 _ _ _
      | exact malthouseref02_Weight.mono _ _ _ _ _ _
      | exact LeO.none _
      | refine LeO.ite ?_ ?_
      | refine LeO.bind ?_ (fun _ => ?_)
theorem malthouseref09_Light.mono : ∀ a0 k, LeO (malthouseref09_Light.f k a0) (malthouseref09_Light.f (k + 1) a0) := by
  intro a0 k
  obtain ⟨ih0, ih1, ih2⟩ := malthouseref09_Light.mono_l k
  unfold malthouseref09_Light.f
  repeat' first
      | (with_reducible exact ih0 _ _)
      | (with_reducible exact ih1 _ _ _)
      | (with_reducible exact ih2 _ _ _)
      | (with_reducible exact malthouseref02_Weight.mono _ _ _ _ _ _)
      | (with_reducible exact LeO.refl _)
      | (with_reducible exact LeO.none _)
      | (with_reducible refine LeO.ite ?_ ?_)
      | (with_reducible refine LeO.bind ?_ (fun _ => ?_))
      | exact ih0 _ _
      | exact ih1 _ _ _
      | exact ih2 _ _ _
      | exact malthouseref02_Weight.mono _ _ _ _ _ _
      | exact LeO.none _
      | refine LeO.ite ?_ ?_
      | refine LeO.bind ?_ (fun _ => ?_)
set_option maxHeartbeats 8000000 in
set_option maxRecDepth 100000 in
theorem malthouseref09_Light.calls (k : Nat) (A0 : Option Addr) (c0 : Nat) (l0 : List (S43)) (r : Bool) (w : World) (hr0 : Kd.C k43 w A0 l0.length l0) (hc0 : l0.length ≤ c0) (h : malthouseref09_Light.f k l0 = some r) :
  Calls Tryd.prog 20 #[.slice A0 l0.length c0] w fun e w' => e = .returned (.bool r) ∧ Below w.heap.size w w' := by
 have hu34 := Tryd.underlying34
 have HR0 := Aside0.mk hr0
 have HC0 := Aside0.mk hc0
 clear hr0 hc0
 have HB := Aside0.mk (Below.refl w.heap.size w)
 have H : (if (l0.length : Int) > 50 then (some false) else (malthouseref09_Light.l0 k l0 0)) = some r := h
 clear h
 by_cases c2 : (l0.length : Int) > 50
 ·rw [if_pos c2] at H
  have c2b0 : decide (50 < (l0.length : Int)) = true := decide_eq_true c2
  have c2b1 : decide (50 < l0.length) = true := decide_eq_true (by omega)
  clear c2
  obtain rfl := Option.some.inj H
  go_enter Tryd.func20, Tryd.ntmps20
  go_wp2
  go_ret
  exact qr
 ·rw [if_neg c2] at H
  have c2b0 : decide (50 < (l0.length : Int)) = false := decide_eq_false c2
  have c2b1 : decide (50 < l0.length) = false := decide_eq_false (by omega)
  clear c2
  have H' := Aside0.mk H
  clear H
  go_enter Tryd.func20, Tryd.ntmps20
  go_wp2
  go_loopg [3] k (fun kq v3 w' => ∃ (x3_1 : Int), v3 = .int .i64 x3_1 ∧ Aside0 (malthouseref09_Light.l0 kq l0 x3_1 = some r) ∧ Aside0 (kq ≤ k) ∧ Aside0 (Below w.heap.size w w'))
  case atStart => exact ⟨(0), qv, H', ⟨Nat.le_refl _⟩, qB⟩
  case round =>
   clear H'
   obtain ⟨x3_1, rfl, HA, HK1, HB⟩ := hrel
   cases gk with
   | zero => exact absurd HA.out (by simp [malthouseref09_Light.l0])
   | succ k1 =>
    have H := HA.out
    clear HA
    simp only [malthouseref09_Light.l0] at H
    by_cases c3 : x3_1 < (l0.length : Int)
    ·rw [if_pos c3] at H
     have c3b0 : decide (x3_1 < (l0.length : Int)) = true := decide_eq_true c3
     clear c3
     have HC4 := Aside0.mk H
     clear H
     go_upto_region 6 with (fail)
     go_cut [29] (fun v29 wc => ∃ (kq : Nat) (x29_3 : Bool), v29 = .bool x29_3 ∧ Aside0 (malthouseref09_Light.j1 kq l0 x3_1 x29_3 = some r) ∧ Aside0 (kq ≤ k1) ∧ Aside0 (Below w.heap.size w wc))
     case first =>
      have H := HC4.out
      clear HC4
      by_cases c5 : 0 ≤ x3_1
      ·rw [if_pos c5] at H
       have c5b0 : decide (0 ≤ x3_1) = true := decide_eq_true c5
       clear c5
       (first | rw [c5b0] | (simp only [i64_w, i32_w]; rw [c5b0]) | skip)
       by_cases c6 : (((rd_T43 l0 x3_1).f2).length : Int) > 50
       ·rw [if_pos c6] at H
        have c6b0 : decide (50 < (((rd_T43 l0 x3_1).f2).length : Int)) = true := decide_eq_true c6
        have c6b1 : decide (50 < ((rd_T43 l0 x3_1).f2).length) = true := decide_eq_true (by omega)
        clear c6
        have H' := Aside0.mk H
        clear H
        have p101 : 0 ≤ (x3_1 : Int) := qa
        have q101 : x3_1 < (l0.length : Int) := qa
        obtain ⟨ad101, A101_2, c101_2, e101, hx101_0, hx101_1, hx101_2, hl101_2, hi101_2⟩ := at_T43 HR0.out x3_1 p101 q101
        cases e101
        replace hx101_0 := qc HB.out hx101_0
        replace hx101_1 := qc HB.out hx101_1
        replace hx101_2 := qc HB.out hx101_2
        have HR101_2 := Aside0.mk hi101_2
        have HC101_2 := Aside0.mk hl101_2
        clear hi101_2 hl101_2
        replace p101 := eq_true p101
        replace q101 := eq_true q101
        go_wp2
        go_meet
        case rel => exact ⟨_, (true), qv, H', ⟨by have := HK1.out; first | omega | exact Nat.le_refl _⟩, qB⟩
       ·rw [if_neg c6] at H
        have c6b0 : decide (50 < (((rd_T43 l0 x3_1).f2).length : Int)) = false := decide_eq_false c6
        have c6b1 : decide (50 < ((rd_T43 l0 x3_1).f2).length) = false := decide_eq_false (by omega)
        clear c6
        have H' := Aside0.mk H
        clear H
        have p101 : 0 ≤ (x3_1 : Int) := qa
        have q101 : x3_1 < (l0.length : Int) := qa
        obtain ⟨ad101, A101_2, c101_2, e101, hx101_0, hx101_1, hx101_2, hl101_2, hi101_2⟩ := at_T43 HR0.out x3_1 p101 q101
        cases e101
        replace hx101_0 := qc HB.out hx101_0
        replace hx101_1 := qc HB.out hx101_1
        replace hx101_2 := qc HB.out hx101_2
        have HR101_2 := Aside0.mk hi101_2
        have HC101_2 := Aside0.mk hl101_2
        clear hi101_2 hl101_2
        replace p101 := eq_true p101
        replace q101 := eq_true q101
        have p102 : 0 ≤ (x3_1 : Int) := qa
        have q102 : x3_1 < (l0.length : Int) := qa
        obtain ⟨ad102, A102_2, c102_2, e102, hx102_0, hx102_1, hx102_2, hl102_2, hi102_2⟩ := at_T43 HR0.out x3_1 p102 q102
        obtain rfl : ad101 = ad102 := (by injection e102)
        replace hx102_0 := qc HB.out hx102_0
        replace hx102_1 := qc HB.out hx102_1
        replace hx102_2 := qc HB.out hx102_2
        have HR102_2 := Aside0.mk hi102_2
        have HC102_2 := Aside0.mk hl102_2
        clear hi102_2 hl102_2
        replace p102 := eq_true p102
        replace q102 := eq_true q102
        have ea_ := Option.some.inj (hx101_2.symm.trans hx102_2)
        injection ea_ with ea_ en_ ec_
        subst ea_
        subst ec_
        clear en_
        go_wp2
        go_meet
        case rel => exact ⟨_, (decide ((((rd_T43 l0 x3_1).f1).size : Int) > 200)), qv, H', ⟨by have := HK1.out; first | omega | exact Nat.le_refl _⟩, qB⟩
      ·rw [if_neg c5] at H
       exact absurd H (by simp)
     case rest =>
      clear HC4
      obtain ⟨kq, x29_3, rfl, HA, HJ3, HB⟩ := hcut
      cases kq with
      | zero => exact absurd HA.out (by simp [malthouseref09_Light.j1])
      | succ kj3 =>
       have H := HA.out
       clear HA
       simp only [malthouseref09_Light.j1] at H
       by_cases c7 : x29_3 = true
       ·subst c7
        rw [if_pos rfl] at H
        obtain rfl := Option.some.inj H
        go_wp2
        go_ret
        exact qr
       ·replace c7 := Bool.eq_false_iff.mpr c7
        subst c7
        rw [if_neg qf] at H
        have H' := Aside0.mk H
        clear H
        go_wp2
        go_loopg [4] kj3 (fun kq v4 w' => ∃ (x4_3 : Int), v4 = .int .i64 x4_3 ∧ Aside0 (malthouseref09_Light.l1 kq l0 x3_1 x4_3 = some r) ∧ Aside0 (kq ≤ kj3) ∧ Aside0 (Below w.heap.size w w'))
        case atStart => exact ⟨(0), qv, H', ⟨Nat.le_refl _⟩, qB⟩
        case round =>
         clear H'
         obtain ⟨x4_3, rfl, HA, HK3, HB⟩ := hrel
         cases gk with
         | zero => exact absurd HA.out (by simp [malthouseref09_Light.l1])
         | succ k3 =>
          have H := HA.out
          clear HA
          simp only [malthouseref09_Light.l1] at H
          by_cases c8 : 0 ≤ x3_1
          ·rw [if_pos c8] at H
           have c8b0 : decide (0 ≤ x3_1) = true := decide_eq_true c8
           clear c8
           by_cases c9 : x3_1 < (l0.length : Int)
           ·rw [if_pos c9] at H
            have c9b0 : decide (x3_1 < (l0.length : Int)) = true := decide_eq_true c9
            clear c9
            by_cases c10 : x4_3 < (((rd_T43 l0 x3_1).f2).length : Int)
            ·rw [if_pos c10] at H
             have c10b0 : decide (x4_3 < (((rd_T43 l0 x3_1).f2).length : Int)) = true := decide_eq_true c10
             clear c10
             by_cases c11 : 0 ≤ x4_3
             ·rw [if_pos c11] at H
              have c11b0 : decide (0 ≤ x4_3) = true := decide_eq_true c11
              clear c11
              by_cases c12 : (((rd_T40 ((rd_T43 l0 x3_1).f2) x4_3).f1).size : Int) > 200
              ·rw [if_pos c12] at H
               have c12b0 : decide (200 < (((rd_T40 ((rd_T43 l0 x3_1).f2) x4_3).f1).size : Int)) = true := decide_eq_true c12
               have c12b1 : decide (200 < ((rd_T40 ((rd_T43 l0 x3_1).f2) x4_3).f1).size) = true := decide_eq_true (by omega)
               clear c12
               obtain rfl := Option.some.inj H
               have p103 : 0 ≤ (x3_1 : Int) := qa
               have q103 : x3_1 < (l0.length : Int) := qa
               obtain ⟨ad103, A103_2, c103_2, e103, hx103_0, hx103_1, hx103_2, hl103_2, hi103_2⟩ := at_T43 HR0.out x3_1 p103 q103
               cases e103
               replace hx103_0 := qc HB.out hx103_0
               replace hx103_1 := qc HB.out hx103_1
               replace hx103_2 := qc HB.out hx103_2
               have HR103_2 := Aside0.mk hi103_2
               have HC103_2 := Aside0.mk hl103_2
               clear hi103_2 hl103_2
               replace p103 := eq_true p103
               replace q103 := eq_true q103
               have p104 : 0 ≤ (x3_1 : Int) := qa
               have q104 : x3_1 < (l0.length : Int) := qa
               obtain ⟨ad104, A104_2, c104_2, e104, hx104_0, hx104_1, hx104_2, hl104_2, hi104_2⟩ := at_T43 HR0.out x3_1 p104 q104
               obtain rfl : ad103 = ad104 := (by injection e104)
               replace hx104_0 := qc HB.out hx104_0
               replace hx104_1 := qc HB.out hx104_1
               replace hx104_2 := qc HB.out hx104_2
               have HR104_2 := Aside0.mk hi104_2
               have HC104_2 := Aside0.mk hl104_2
               clear hi104_2 hl104_2
               replace p104 := eq_true p104
               replace q104 := eq_true q104
               have ea_ := Option.some.inj (hx103_2.symm.trans hx104_2)
               injection ea_ with ea_ en_ ec_
               subst ea_
               subst ec_
               clear en_
               have p105 : 0 ≤ (x4_3 : Int) := qa
               have q105 : x4_3 < (((rd_T43 l0 x3_1).f2).length : Int) := qa
               obtain ⟨ad105, A105_5, c105_5, e105, hx105_0, hx105_1, hx105_2, hx105_3, hx105_4, hx105_5, hl105_5, hi105_5⟩ := at_T40 HR104_2.out x4_3 p105 q105
               cases e105
               replace hx105_0 := qc HB.out hx105_0
               replace hx105_1 := qc HB.out hx105_1
               replace hx105_2 := qc HB.out hx105_2
               replace hx105_3 := qc HB.out hx105_3
               replace hx105_4 := qc HB.out hx105_4
               replace hx105_5 := qc HB.out hx105_5
               have HR105_5 := Aside0.mk hi105_5
               have HC105_5 := Aside0.mk hl105_5
               clear hi105_5 hl105_5
               replace p105 := eq_true p105
               replace q105 := eq_true q105
               go_wp2
               go_ret
               exact qr
              ·rw [if_neg c12] at H
               have c12b0 : decide (200 < (((rd_T40 ((rd_T43 l0 x3_1).f2) x4_3).f1).size : Int)) = false := decide_eq_false c12
               have c12b1 : decide (200 < ((rd_T40 ((rd_T43 l0 x3_1).f2) x4_3).f1).size) = false := decide_eq_false (by omega)
               clear c12
               replace H := qi H
               obtain ⟨t108, A13, H⟩ := H
               by_cases c14 : t108 = 0
               ·rw [if_pos c14] at H
                obtain ⟨c14b0, c14b1⟩ := qe c14
                clear c14
                obtain rfl := Option.some.inj H
                have p103 : 0 ≤ (x3_1 : Int) := qa
                have q103 : x3_1 < (l0.length : Int) := qa
                obtain ⟨ad103, A103_2, c103_2, e103, hx103_0, hx103_1, hx103_2, hl103_2, hi103_2⟩ := at_T43 HR0.out x3_1 p103 q103
                cases e103
                replace hx103_0 := qc HB.out hx103_0
                replace hx103_1 := qc HB.out hx103_1
                replace hx103_2 := qc HB.out hx103_2
                have HR103_2 := Aside0.mk hi103_2
                have HC103_2 := Aside0.mk hl103_2
                clear hi103_2 hl103_2
                replace p103 := eq_true p103
                replace q103 := eq_true q103
                have p104 : 0 ≤ (x3_1 : Int) := qa
                have q104 : x3_1 < (l0.length : Int) := qa
                obtain ⟨ad104, A104_2, c104_2, e104, hx104_0, hx104_1, hx104_2, hl104_2, hi104_2⟩ := at_T43 HR0.out x3_1 p104 q104
                obtain rfl : ad103 = ad104 := (by injection e104)
                replace hx104_0 := qc HB.out hx104_0
                replace hx104_1 := qc HB.out hx104_1
                replace hx104_2 := qc HB.out hx104_2
                have HR104_2 := Aside0.mk hi104_2
                have HC104_2 := Aside0.mk hl104_2
                clear hi104_2 hl104_2
                replace p104 := eq_true p104
                replace q104 := eq_true q104
                have ea_ := Option.some.inj (hx103_2.symm.trans hx104_2)
                injection ea_ with ea_ en_ ec_
                subst ea_
                subst ec_
                clear en_
                have p105 : 0 ≤ (x4_3 : Int) := qa
                have q105 : x4_3 < (((rd_T43 l0 x3_1).f2).length : Int) := qa
                obtain ⟨ad105, A105_5, c105_5, e105, hx105_0, hx105_1, hx105_2, hx105_3, hx105_4, hx105_5, hl105_5, hi105_5⟩ := at_T40 HR104_2.out x4_3 p105 q105
                cases e105
                replace hx105_0 := qc HB.out hx105_0
                replace hx105_1 := qc HB.out hx105_1
                replace hx105_2 := qc HB.out hx105_2
                replace hx105_3 := qc HB.out hx105_3
                replace hx105_4 := qc HB.out hx105_4
                replace hx105_5 := qc HB.out hx105_5
                have HR105_5 := Aside0.mk hi105_5
                have HC105_5 := Aside0.mk hl105_5
                clear hi105_5 hl105_5
                replace p105 := eq_true p105
                replace q105 := eq_true q105
                have p106 : 0 ≤ (x3_1 : Int) := qa
                have q106 : x3_1 < (l0.length : Int) := qa
                obtain ⟨ad106, A106_2, c106_2, e106, hx106_0, hx106_1, hx106_2, hl106_2, hi106_2⟩ := at_T43 HR0.out x3_1 p106 q106
                obtain rfl : ad103 = ad106 := (by injection e106)
                replace hx106_0 := qc HB.out hx106_0
                replace hx106_1 := qc HB.out hx106_1
                replace hx106_2 := qc HB.out hx106_2
                have HR106_2 := Aside0.mk hi106_2
                have HC106_2 := Aside0.mk hl106_2
                clear hi106_2 hl106_2
                replace p106 := eq_true p106
                replace q106 := eq_true q106
                have ea_ := Option.some.inj (hx103_2.symm.trans hx106_2)
                injection ea_ with ea_ en_ ec_
                subst ea_
                subst ec_
                clear en_
                have p107 : 0 ≤ (x4_3 : Int) := qa
                have q107 : x4_3 < (((rd_T43 l0 x3_1).f2).length : Int) := qa
                obtain ⟨ad107, A107_5, c107_5, e107, hx107_0, hx107_1, hx107_2, hx107_3, hx107_4, hx107_5, hl107_5, hi107_5⟩ := at_T40 HR106_2.out x4_3 p107 q107
                cases e107
                replace hx107_0 := qc HB.out hx107_0
                replace hx107_1 := qc HB.out hx107_1
                replace hx107_2 := qc HB.out hx107_2
                replace hx107_3 := qc HB.out hx107_3
                replace hx107_4 := qc HB.out hx107_4
                replace hx107_5 := qc HB.out hx107_5
                have HR107_5 := Aside0.mk hi107_5
                have HC107_5 := Aside0.mk hl107_5
                clear hi107_5 hl107_5
                replace p107 := eq_true p107
                replace q107 := eq_true q107
                go_wp2_with (first | (go_at_call 28; (with_reducible refine (malthouseref02_Weight.calls k3 ((rd_T40 ((rd_T43 l0 x3_1).f2) x4_3).f2.f0) ((rd_T40 ((rd_T43 l0 x3_1).f2) x4_3).f2.f1) ((rd_T40 ((rd_T43 l0 x3_1).f2) x4_3).f2.f2) _ _ ((rd_T40 ((rd_T43 l0 x3_1).f2) x4_3).f2.f3) 200 t108 _ ?side1 ?side2 A13.out).mono ?_); (case side1 => repeat (first | exact (Kd.C_below HR107_5.out HB.out) | exact (Kd.C_below HR105_5.out HB.out) | (with_reducible refine Kd.C_alloc ?_ _) | (with_reducible refine Kd.C_drewN ?_ _) | (with_reducible refine Kd.C_drew ?_))); (case side2 => first | exact HC107_5.out | exact HC105_5.out); rintro e w15 ⟨rfl, hb⟩; have n0_ := qs hb; clear HB; have HB := n0_; clear n0_; (try clear hb)))
                go_ret
                exact qr
               ·rw [if_neg c14] at H
                obtain ⟨c14b0, c14b1⟩ := qd c14
                have H' := Aside0.mk H
                clear H
                have p103 : 0 ≤ (x3_1 : Int) := qa
                have q103 : x3_1 < (l0.length : Int) := qa
                obtain ⟨ad103, A103_2, c103_2, e103, hx103_0, hx103_1, hx103_2, hl103_2, hi103_2⟩ := at_T43 HR0.out x3_1 p103 q103
                cases e103
                replace hx103_0 := qc HB.out hx103_0
                replace hx103_1 := qc HB.out hx103_1
                replace hx103_2 := qc HB.out hx103_2
                have HR103_2 := Aside0.mk hi103_2
                have HC103_2 := Aside0.mk hl103_2
                clear hi103_2 hl103_2
                replace p103 := eq_true p103
                replace q103 := eq_true q103
                have p104 : 0 ≤ (x3_1 : Int) := qa
                have q104 : x3_1 < (l0.length : Int) := qa
                obtain ⟨ad104, A104_2, c104_2, e104, hx104_0, hx104_1, hx104_2, hl104_2, hi104_2⟩ := at_T43 HR0.out x3_1 p104 q104
                obtain rfl : ad103 = ad104 := (by injection e104)
                replace hx104_0 := qc HB.out hx104_0
                replace hx104_1 := qc HB.out hx104_1
                replace hx104_2 := qc HB.out hx104_2
                have HR104_2 := Aside0.mk hi104_2
                have HC104_2 := Aside0.mk hl104_2
                clear hi104_2 hl104_2
                replace p104 := eq_true p104
                replace q104 := eq_true q104
                have ea_ := Option.some.inj (hx103_2.symm.trans hx104_2)
                injection ea_ with ea_ en_ ec_
                subst ea_
                subst ec_
                clear en_
                have p105 : 0 ≤ (x4_3 : Int) := qa
                have q105 : x4_3 < (((rd_T43 l0 x3_1).f2).length : Int) := qa
                obtain ⟨ad105, A105_5, c105_5, e105, hx105_0, hx105_1, hx105_2, hx105_3, hx105_4, hx105_5, hl105_5, hi105_5⟩ := at_T40 HR104_2.out x4_3 p105 q105
                cases e105
                replace hx105_0 := qc HB.out hx105_0
                replace hx105_1 := qc HB.out hx105_1
                replace hx105_2 := qc HB.out hx105_2
                replace hx105_3 := qc HB.out hx105_3
                replace hx105_4 := qc HB.out hx105_4
                replace hx105_5 := qc HB.out hx105_5
                have HR105_5 := Aside0.mk hi105_5
                have HC105_5 := Aside0.mk hl105_5
                clear hi105_5 hl105_5
                replace p105 := eq_true p105
                replace q105 := eq_true q105
                have p106 : 0 ≤ (x3_1 : Int) := qa
                have q106 : x3_1 < (l0.length : Int) := qa
                obtain ⟨ad106, A106_2, c106_2, e106, hx106_0, hx106_1, hx106_2, hl106_2, hi106_2⟩ := at_T43 HR0.out x3_1 p106 q106
                obtain rfl : ad103 = ad106 := (by injection e106)
                replace hx106_0 := qc HB.out hx106_0
                replace hx106_1 := qc HB.out hx106_1
                replace hx106_2 := qc HB.out hx106_2
                have HR106_2 := Aside0.mk hi106_2
                have HC106_2 := Aside0.mk hl106_2
                clear hi106_2 hl106_2
                replace p106 := eq_true p106
                replace q106 := eq_true q106
                have ea_ := Option.some.inj (hx103_2.symm.trans hx106_2)
                injection ea_ with ea_ en_ ec_
                subst ea_
                subst ec_
                clear en_
                have p107 : 0 ≤ (x4_3 : Int) := qa
                have q107 : x4_3 < (((rd_T43 l0 x3_1).f2).length : Int) := qa
                obtain ⟨ad107, A107_5, c107_5, e107, hx107_0, hx107_1, hx107_2, hx107_3, hx107_4, hx107_5, hl107_5, hi107_5⟩ := at_T40 HR106_2.out x4_3 p107 q107
                cases e107
                replace hx107_0 := qc HB.out hx107_0
                replace hx107_1 := qc HB.out hx107_1
                replace hx107_2 := qc HB.out hx107_2
                replace hx107_3 := qc HB.out hx107_3
                replace hx107_4 := qc HB.out hx107_4
                replace hx107_5 := qc HB.out hx107_5
                have HR107_5 := Aside0.mk hi107_5
                have HC107_5 := Aside0.mk hl107_5
                clear hi107_5 hl107_5
                replace p107 := eq_true p107
                replace q107 := eq_true q107
                go_wp2_with (first | (go_at_call 28; (with_reducible refine (malthouseref02_Weight.calls k3 ((rd_T40 ((rd_T43 l0 x3_1).f2) x4_3).f2.f0) ((rd_T40 ((rd_T43 l0 x3_1).f2) x4_3).f2.f1) ((rd_T40 ((rd_T43 l0 x3_1).f2) x4_3).f2.f2) _ _ ((rd_T40 ((rd_T43 l0 x3_1).f2) x4_3).f2.f3) 200 t108 _ ?side1 ?side2 A13.out).mono ?_); (case side1 => repeat (first | exact (Kd.C_below HR107_5.out HB.out) | exact (Kd.C_below HR105_5.out HB.out) | (with_reducible refine Kd.C_alloc ?_ _) | (with_reducible refine Kd.C_drewN ?_ _) | (with_reducible refine Kd.C_drew ?_))); (case side2 => first | exact HC107_5.out | exact HC105_5.out); rintro e w16 ⟨rfl, hb⟩; have n0_ := qs hb; clear HB; have HB := n0_; clear n0_; (try clear hb)))
                go_roundg k3
                case measure => have := HK1.out; have := HJ3.out; have := HK3.out; omega
                case rel => exact ⟨(wrap64 (x4_3 + 1)), qv, H', ⟨by have := HK1.out; have := HJ3.out; have := HK3.out; omega⟩, qB⟩
             ·rw [if_neg c11] at H
              exact absurd H (by simp)
            ·rw [if_neg c10] at H
             have c10b0 : decide (x4_3 < (((rd_T43 l0 x3_1).f2).length : Int)) = false := decide_eq_false c10
             clear c10
             have H' := Aside0.mk H
             clear H
             have p103 : 0 ≤ (x3_1 : Int) := qa
             have q103 : x3_1 < (l0.length : Int) := qa
             obtain ⟨ad103, A103_2, c103_2, e103, hx103_0, hx103_1, hx103_2, hl103_2, hi103_2⟩ := at_T43 HR0.out x3_1 p103 q103
             cases e103
             replace hx103_0 := qc HB.out hx103_0
             replace hx103_1 := qc HB.out hx103_1
             replace hx103_2 := qc HB.out hx103_2
             have HR103_2 := Aside0.mk hi103_2
             have HC103_2 := Aside0.mk hl103_2
             clear hi103_2 hl103_2
             replace p103 := eq_true p103
             replace q103 := eq_true q103
             go_wp2
             go_roundg k3
             case measure => have := HK1.out; have := HJ3.out; have := HK3.out; omega
             case rel => exact ⟨(wrap64 (x3_1 + 1)), qv, H', ⟨by have := HK1.out; have := HJ3.out; have := HK3.out; omega⟩, qB⟩
           ·rw [if_neg c9] at H
            exact absurd H (by simp)
          ·rw [if_neg c8] at H
           exact absurd H (by simp)
    ·rw [if_neg c3] at H
     have c3b0 : decide (x3_1 < (l0.length : Int)) = false := decide_eq_false c3
     clear c3
     obtain rfl := Option.some.inj H
     go_wp2
     go_ret
     exact qr
def malthouselaw09_cells.l0 : Nat → List (S69) → Int → Option (Bool)
  | 0, _, _ => none
  | k + 1, x0, x3 => if x3 < (x0.length : Int) then (if 0 ≤ x3 then (if (((rd_T69 x0 x3).f0).size : Int) > 200 then (some false) else (malthouselaw09_cells.l0 k x0 (wrap64 (x3 + 1)))) else (none)) else (some true)
def malthouselaw09_cells.f (k : Nat) (l0 : List (S69)) : Option (Bool) := if (l0.length : Int) > 100 then (some false) else (malthouselaw09_cells.l0 k l0 0)
theorem malthouselaw09_cells.mono_l : ∀ k, (∀ y0 y1, LeO (malthouselaw09_cells.l0 k y0 y1) (malthouselaw09_cells.l0 (k + 1) y0 y1))
  | 0 => fun _ _ r h => by simp [malthouselaw09_cells.l0] at h
  | k + 1 => by
    have ih0 := malthouselaw09_cells.mono_l k
    · intro y0 y1
      unfold malthouselaw09_cells.l0
      repeat' first
      | (with_reducible exact ih0 _ _)
      | (with_reducible exact LeO.refl _)
      | (with_reducible exact LeO.none _)
      | (with_reducible refine LeO.ite ?_ ?_)
      | (with_reducible refine LeO.bind ?_ (fun _ => ?_))
      | exact ih0 _ _
      | exact LeO.none _
      | refine LeO.ite ?_ ?_
      | refine LeO.bind ?_ (fun _ => ?_)
theorem malthouselaw09_cells.mono : ∀ a0 k, LeO (malthouselaw09_cells.f k a0) (malthouselaw09_cells.f (k + 1) a0) := by
  intro a0 k
  have ih0 := malthouselaw09_cells.mono_l k
  unfold malthouselaw09_cells.f
  repeat' first
      | (with_reducible exact ih0 _ _)
      | (with_reducible exact LeO.refl _)
      | (with_reducible exact LeO.none _)
      | (with_reducible refine LeO.ite ?_ ?_)
      | (with_reducible refine LeO.bind ?_ (fun _ => ?_))
      | exact ih0 _ _
      | exact LeO.none _
      | refine LeO.ite ?_ ?_
      | refine LeO.bind ?_ (fun _ => ?_)
set_option maxHeartbeats 8000000 in
set_option maxRecDepth 100000 in
theorem malthouselaw09_cells.calls (k : Nat) (A0 : Option Addr) (c0 : Nat) (l0 : List (S69)) (r : Bool) (w : World) (hr0 : Kd.C k69 w A0 l0.length l0) (hc0 : l0.length ≤ c0) (h : malthouselaw09_cells.f k l0 = some r) :
  Calls Tryd.prog 27 #[.slice A0 l0.length c0] w fun e w' => e = .returned (.bool r) ∧ Drawn0 w w' := by
 have HR0 := Aside0.mk hr0
 have HC0 := Aside0.mk hc0
 clear hr0 hc0
 have H : (if (l0.length : Int) > 100 then (some false) else (malthouselaw09_cells.l0 k l0 0)) = some r := h
 clear h
 by_cases c2 : (l0.length : Int) > 100
 ·rw [if_pos c2] at H
  have c2b0 : decide (100 < (l0.length : Int)) = true := decide_eq_true c2
  have c2b1 : decide (100 < l0.length) = true := decide_eq_true (by omega)
  clear c2
  obtain rfl := Option.some.inj H
  go_enter Tryd.func27, Tryd.ntmps27
  go_wp2
  go_ret
  exact ⟨by first | rfl | (simp; done) | (simp [*]; done), by repeat (first | exact Drawn0.refl _ | apply Drawn0.step)⟩
 ·rw [if_neg c2] at H
  have c2b0 : decide (100 < (l0.length : Int)) = false := decide_eq_false c2
  have c2b1 : decide (100 < l0.length) = false := decide_eq_false (by omega)
  clear c2
  have H' := Aside0.mk H
  clear H
  go_enter Tryd.func27, Tryd.ntmps27
  go_wp2
  go_loopg [3] k (fun kq v3 w' => ∃ (x3_1 : Int), v3 = .int .i64 x3_1 ∧ Aside0 (malthouselaw09_cells.l0 kq l0 x3_1 = some r) ∧ Aside0 (kq ≤ k) ∧ Drawn0 w w')
  case atStart => exact ⟨(0), qv, H', ⟨Nat.le_refl _⟩, by repeat (first | exact Drawn0.refl _ | apply Drawn0.step)⟩
  case round =>
   clear H'
   obtain ⟨x3_1, rfl, HA, HK1, ⟨m1, rfl⟩⟩ := hrel
   cases gk with
   | zero => exact absurd HA.out (by simp [malthouselaw09_cells.l0])
   | succ k1 =>
    have H := HA.out
    clear HA
    simp only [malthouselaw09_cells.l0] at H
    by_cases c3 : x3_1 < (l0.length : Int)
    ·rw [if_pos c3] at H
     have c3b0 : decide (x3_1 < (l0.length : Int)) = true := decide_eq_true c3
     clear c3
     by_cases c4 : 0 ≤ x3_1
     ·rw [if_pos c4] at H
      have c4b0 : decide (0 ≤ x3_1) = true := decide_eq_true c4
      clear c4
      by_cases c5 : (((rd_T69 l0 x3_1).f0).size : Int) > 200
      ·rw [if_pos c5] at H
       have c5b0 : decide (200 < (((rd_T69 l0 x3_1).f0).size : Int)) = true := decide_eq_true c5
       have c5b1 : decide (200 < ((rd_T69 l0 x3_1).f0).size) = true := decide_eq_true (by omega)
       clear c5
       obtain rfl := Option.some.inj H
       have p101 : 0 ≤ (x3_1 : Int) := qa
       have q101 : x3_1 < (l0.length : Int) := qa
       obtain ⟨ad101, e101, hx101_0, hx101_1⟩ := at_T69 HR0.out x3_1 p101 q101
       cases e101
       replace p101 := eq_true p101
       replace q101 := eq_true q101
       go_wp2
       go_ret
       exact ⟨by first | rfl | (simp; done) | (simp [*]; done), by repeat (first | exact Drawn0.refl _ | apply Drawn0.step)⟩
      ·rw [if_neg c5] at H
       have c5b0 : decide (200 < (((rd_T69 l0 x3_1).f0).size : Int)) = false := decide_eq_false c5
       have c5b1 : decide (200 < ((rd_T69 l0 x3_1).f0).size) = false := decide_eq_false (by omega)
       clear c5
       have H' := Aside0.mk H
       clear H
       have p101 : 0 ≤ (x3_1 : Int) := qa
       have q101 : x3_1 < (l0.length : Int) := qa
       obtain ⟨ad101, e101, hx101_0, hx101_1⟩ := at_T69 HR0.out x3_1 p101 q101
       cases e101
       replace p101 := eq_true p101
       replace q101 := eq_true q101
       go_wp2
       go_roundg k1
       case measure => have := HK1.out; omega
       case rel => exact ⟨(wrap64 (x3_1 + 1)), qv, H', ⟨by have := HK1.out; omega⟩, by repeat (first | exact Drawn0.refl _ | apply Drawn0.step)⟩
     ·rw [if_neg c4] at H
      exact absurd H (by simp)
    ·rw [if_neg c3] at H
     have c3b0 : decide (x3_1 < (l0.length : Int)) = false := decide_eq_false c3
     clear c3
     obtain rfl := Option.some.inj H
     go_wp2
     go_ret
     exact ⟨by first | rfl | (simp; done) | (simp [*]; done), by repeat (first | exact Drawn0.refl _ | apply Drawn0.step)⟩
mutual
def malthouselaw09_plain.l0 : Nat → List (S43) → Int → Option (Bool)
  | 0, _, _ => none
  | k + 1, x0, x3 => if x3 < (x0.length : Int) then (if 0 ≤ x3 then (if ((rd_T43 x0 x3).f0) = 2 then (some false) else (malthouselaw09_plain.l1 k x0 x3 0)) else (none)) else (some true)
def malthouselaw09_plain.l1 : Nat → List (S43) → Int → Int → Option (Bool)
  | 0, _, _, _ => none
  | k + 1, x0, x3, x4 => if 0 ≤ x3 then (if x3 < (x0.length : Int) then (if x4 < (((rd_T43 x0 x3).f2).length : Int) then (if 0 ≤ x4 then (if ((rd_T40 ((rd_T43 x0 x3).f2) x4).f0) = 1 then (some false) else (if ((rd_T40 ((rd_T43 x0 x3).f2) x4).f0) = 4 then (some false) else (if ((rd_T40 ((rd_T43 x0 x3).f2) x4).f0) = 6 then (some false) else (if ((rd_T40 ((rd_T43 x0 x3).f2) x4).f0) = 9 then (some false) else (malthouselaw09_plain.l1 k x0 x3 (wrap64 (x4 + 1))))))) else (none)) else (malthouselaw09_plain.l0 k x0 (wrap64 (x3 + 1)))) else (none)) else (none)
end
def malthouselaw09_plain.f (k : Nat) (l0 : List (S43)) : Option (Bool) := malthouselaw09_plain.l0 k l0 0
theorem malthouselaw09_plain.mono_l : ∀ k, (∀ y0 y1, LeO (malthouselaw09_plain.l0 k y0 y1) (malthouselaw09_plain.l0 (k + 1) y0 y1)) ∧ (∀ y0 y1 y2, LeO (malthouselaw09_plain.l1 k y0 y1 y2) (malthouselaw09_plain.l1 (k + 1) y0 y1 y2))
  | 0 => ⟨fun _ _ r h => by simp [malthouselaw09_plain.l0] at h, fun _ _ _ r h => by simp [malthouselaw09_plain.l1] at h⟩
  | k + 1 => by
    obtain ⟨ih0, ih1⟩ := malthouselaw09_plain.mono_l k
    refine ⟨?_, ?_⟩
    · intro y0 y1
      unfold malthouselaw09_plain.l0
      repeat' first
      | (with_reducible exact ih0 _ _)
      | (with_reducible exact ih1 _ _ _)
      | (with_reducible exact LeO.refl _)
      | (with_reducible exact LeO.none _)
      | (with_reducible refine LeO.ite ?_ ?_)
      | (with_reducible refine LeO.bind ?_ (fun _ => ?_))
      | exact ih0 _ _
      | exact ih1 _ _ _
      | exact LeO.none _
      | refine LeO.ite ?_ ?_
      | refine LeO.bind ?_ (fun _ => ?_)
    · intro y0 y1 y2
      unfold malthouselaw09_plain.l1
      repeat' first
      | (with_reducible exact ih0 _ _)
      | (with_reducible exact ih1 _ _ _)
      | (with_reducible exact LeO.refl _)
      | (with_reducible exact LeO.none _)
      | (with_reducible refine LeO.ite ?_ ?_)
      | (with_reducible refine LeO.bind ?_ (fun _ => ?_))
      | exact ih0 _ _
      | exact ih1 _ _ _
      | exact LeO.none _
      | refine LeO.ite ?_ ?_
      | refine LeO.bind ?_ (fun _ => ?_)
theorem malthouselaw09_plain.mono : ∀ a0 k, LeO (malthouselaw09_plain.f k a0) (malthouselaw09_plain.f (k + 1) a0) := by
  intro a0 k
  obtain ⟨ih0, ih1⟩ := malthouselaw09_plain.mono_l k
  unfold malthouselaw09_plain.f
  repeat' first
      | (with_reducible exact ih0 _ _)
      | (with_reducible exact ih1 _ _ _)
      | (with_reducible exact LeO.refl _)
      | (with_reducible exact LeO.none _)
      | (with_reducible refine LeO.ite ?_ ?_)
      | (with_reducible refine LeO.bind ?_ (fun _ => ?_))
      | exact ih0 _ _
      | exact ih1 _ _ _
      | exact LeO.none _
      | refine LeO.ite ?_ ?_
      | refine LeO.bind ?_ (fun _ => ?_)
set_option maxHeartbeats 8000000 in
set_option maxRecDepth 100000 in
theorem malthouselaw09_plain.calls (k : Nat) (A0 : Option Addr) (c0 : Nat) (l0 : List (S43)) (r : Bool) (w : World) (hr0 : Kd.C k43 w A0 l0.length l0) (hc0 : l0.length ≤ c0) (h : malthouselaw09_plain.f k l0 = some r) :
    Calls Tryd.prog 34 #[.slice A0 l0.length c0] w fun e w' => e = .returned (.bool r) ∧ Drawn0 w w' := by
  have HR0 := Aside0.mk hr0
  have HC0 := Aside0.mk hc0
  clear hr0 hc0
  have H : (malthouselaw09_plain.l0 k l0 0) = some r := h
  clear h
  have H' := Aside0.mk H
  clear H
  go_enter Tryd.func34, Tryd.ntmps34
  go_wp2
  go_loopg [3] k (fun kq v3 w' => ∃ (x3_1 : Int), v3 = .int .i64 x3_1 ∧ Aside0 (malthouselaw09_plain.l0 kq l0 x3_1 = some r) ∧ Aside0 (kq ≤ k) ∧ Drawn0 w w')
  case atStart => exact ⟨(0), qv, H', ⟨Nat.le_refl _⟩, by repeat (first | exact Drawn0.refl _ | apply Drawn0.step)⟩
  case round =>
    clear H'
    obtain ⟨x3_1, rfl, HA, HK1, ⟨m1, rfl⟩⟩ := hrel
    cases gk with
    | zero => exact absurd HA.out (by simp [malthouselaw09_plain.l0])
    | succ k1 =>
      have H := HA.out
      clear HA
      simp only [malthouselaw09_plain.l0] at H
      by_cases c2 : x3_1 < (l0.length : Int)
      · rw [if_pos c2] at H
        have c2b0 : decide (x3_1 < (l0.length : Int)) = true := decide_eq_true c2
        clear c2
        by_cases c3 : 0 ≤ x3_1
        · rw [if_pos c3] at H
          have c3b0 : decide (0 ≤ x3_1) = true := decide_eq_true c3
          clear c3
          by_cases c4 : ((rd_T43 l0 x3_1).f0) = 2
          · rw [if_pos c4] at H
            obtain ⟨c4b0, c4b1⟩ := qe c4
            clear c4
            obtain rfl := Option.some.inj H
            have p101 : 0 ≤ (x3_1 : Int) := qa
            have q101 : x3_1 < (l0.length : Int) := qa
            obtain ⟨ad101, A101_2, c101_2, e101, hx101_0, hx101_1, hx101_2, hl101_2, hi101_2⟩ := at_T43 HR0.out x3_1 p101 q101
            cases e101
            have HR101_2 := Aside0.mk hi101_2
            have HC101_2 := Aside0.mk hl101_2
            clear hi101_2 hl101_2
            replace p101 := eq_true p101
            replace q101 := eq_true q101
            go_wp2
            go_ret
            exact ⟨by first | rfl | (simp; done) | (simp [*]; done), by repeat (first | exact Drawn0.refl _ | apply Drawn0.step)⟩
          · rw [if_neg c4] at H
            obtain ⟨c4b0, c4b1⟩ := qd c4
            have H' := Aside0.mk H
            clear H
            have p101 : 0 ≤ (x3_1 : Int) := qa
            have q101 : x3_1 < (l0.length : Int) := qa
            obtain ⟨ad101, A101_2, c101_2, e101, hx101_0, hx101_1, hx101_2, hl101_2, hi101_2⟩ := at_T43 HR0.out x3_1 p101 q101
            cases e101
            have HR101_2 := Aside0.mk hi101_2
            have HC101_2 := Aside0.mk hl101_2
            clear hi101_2 hl101_2
            replace p101 := eq_true p101
            replace q101 := eq_true q101
            go_wp2
            go_loopg [4] k1 (fun kq v4 w' => ∃ (x4_2 : Int), v4 = .int .i64 x4_2 ∧ Aside0 (malthouselaw09_plain.l1 kq l0 x3_1 x4_2 = some r) ∧ Aside0 (kq ≤ k1) ∧ Drawn0 w w')
            case atStart => exact ⟨(0), qv, H', ⟨Nat.le_refl _⟩, by repeat (first | exact Drawn0.refl _ | apply Drawn0.step)⟩
            case round =>
              clear H'
              try clear c1
              try clear p1
              try clear q1
              try clear hx1
              try clear c2
              try clear c2b0
              try clear p2
              try clear c3
              try clear c3b0
              try clear c4
              try clear c4b0
              try clear c4b1
              try clear hx101_0
              try clear hx101_1
              try clear hx101_2
              try clear p101
              try clear q101
              obtain ⟨x4_2, rfl, HA, HK2, ⟨m2, rfl⟩⟩ := hrel
              cases gk with
              | zero => exact absurd HA.out (by simp [malthouselaw09_plain.l1])
              | succ k2 =>
                have H := HA.out
                clear HA
                simp only [malthouselaw09_plain.l1] at H
                by_cases c5 : 0 ≤ x3_1
                · rw [if_pos c5] at H
                  have c5b0 : decide (0 ≤ x3_1) = true := decide_eq_true c5
                  clear c5
                  by_cases c6 : x3_1 < (l0.length : Int)
                  · rw [if_pos c6] at H
                    have c6b0 : decide (x3_1 < (l0.length : Int)) = true := decide_eq_true c6
                    clear c6
                    by_cases c7 : x4_2 < (((rd_T43 l0 x3_1).f2).length : Int)
                    · rw [if_pos c7] at H
                      have c7b0 : decide (x4_2 < (((rd_T43 l0 x3_1).f2).length : Int)) = true := decide_eq_true c7
                      clear c7
                      by_cases c8 : 0 ≤ x4_2
                      · rw [if_pos c8] at H
                        have c8b0 : decide (0 ≤ x4_2) = true := decide_eq_true c8
                        clear c8
                        by_cases c9 : ((rd_T40 ((rd_T43 l0 x3_1).f2) x4_2).f0) = 1
                        · rw [if_pos c9] at H
                          obtain ⟨c9b0, c9b1⟩ := qe c9
                          clear c9
                          obtain rfl := Option.some.inj H
                          have p102 : 0 ≤ (x3_1 : Int) := qa
                          have q102 : x3_1 < (l0.length : Int) := qa
                          obtain ⟨ad102, A102_2, c102_2, e102, hx102_0, hx102_1, hx102_2, hl102_2, hi102_2⟩ := at_T43 HR0.out x3_1 p102 q102
                          obtain rfl : ad101 = ad102 := (by injection e102)
                          have HR102_2 := Aside0.mk hi102_2
                          have HC102_2 := Aside0.mk hl102_2
                          clear hi102_2 hl102_2
                          replace p102 := eq_true p102
                          replace q102 := eq_true q102
                          have p103 : 0 ≤ (x3_1 : Int) := qa
                          have q103 : x3_1 < (l0.length : Int) := qa
                          obtain ⟨ad103, A103_2, c103_2, e103, hx103_0, hx103_1, hx103_2, hl103_2, hi103_2⟩ := at_T43 HR0.out x3_1 p103 q103
                          obtain rfl : ad101 = ad103 := (by injection e103)
                          have HR103_2 := Aside0.mk hi103_2
                          have HC103_2 := Aside0.mk hl103_2
                          clear hi103_2 hl103_2
                          replace p103 := eq_true p103
                          replace q103 := eq_true q103
                          have ea_ := Option.some.inj (hx102_2.symm.trans hx103_2)
                          injection ea_ with ea_ en_ ec_
                          subst ea_
                          subst ec_
                          clear en_
                          have p104 : 0 ≤ (x4_2 : Int) := qa
                          have q104 : x4_2 < (((rd_T43 l0 x3_1).f2).length : Int) := qa
                          obtain ⟨ad104, A104_5, c104_5, e104, hx104_0, hx104_1, hx104_2, hx104_3, hx104_4, hx104_5, hl104_5, hi104_5⟩ := at_T40 HR103_2.out x4_2 p104 q104
                          cases e104
                          have HR104_5 := Aside0.mk hi104_5
                          have HC104_5 := Aside0.mk hl104_5
                          clear hi104_5 hl104_5
                          replace p104 := eq_true p104
                          replace q104 := eq_true q104
                          go_wp2
                          go_ret
                          exact ⟨by first | rfl | (simp; done) | (simp [*]; done), by repeat (first | exact Drawn0.refl _ | apply Drawn0.step)⟩
                        · rw [if_neg c9] at H
                          obtain ⟨c9b0, c9b1⟩ := qd c9
                          by_cases c10 : ((rd_T40 ((rd_T43 l0 x3_1).f2) x4_2).f0) = 4
                          · rw [if_pos c10] at H
                            obtain ⟨c10b0, c10b1⟩ := qe c10
                            clear c10
                            obtain rfl := Option.some.inj H
                            have p102 : 0 ≤ (x3_1 : Int) := qa
                            have q102 : x3_1 < (l0.length : Int) := qa
                            obtain ⟨ad102, A102_2, c102_2, e102, hx102_0, hx102_1, hx102_2, hl102_2, hi102_2⟩ := at_T43 HR0.out x3_1 p102 q102
                            obtain rfl : ad101 = ad102 := (by injection e102)
                            have HR102_2 := Aside0.mk hi102_2
                            have HC102_2 := Aside0.mk hl102_2
                            clear hi102_2 hl102_2
                            replace p102 := eq_true p102
                            replace q102 := eq_true q102
                            have p103 : 0 ≤ (x3_1 : Int) := qa
                            have q103 : x3_1 < (l0.length : Int) := qa
                            obtain ⟨ad103, A103_2, c103_2, e103, hx103_0, hx103_1, hx103_2, hl103_2, hi103_2⟩ := at_T43 HR0.out x3_1 p103 q103
                            obtain rfl : ad101 = ad103 := (by injection e103)
                            have HR103_2 := Aside0.mk hi103_2
                            have HC103_2 := Aside0.mk hl103_2
                            clear hi103_2 hl103_2
                            replace p103 := eq_true p103
                            replace q103 := eq_true q103
                            have ea_ := Option.some.inj (hx102_2.symm.trans hx103_2)
                            injection ea_ with ea_ en_ ec_
                            subst ea_
                            subst ec_
                            clear en_
                            have p104 : 0 ≤ (x4_2 : Int) := qa
                            have q104 : x4_2 < (((rd_T43 l0 x3_1).f2).length : Int) := qa
                            obtain ⟨ad104, A104_5, c104_5, e104, hx104_0, hx104_1, hx104_2, hx104_3, hx104_4, hx104_5, hl104_5, hi104_5⟩ := at_T40 HR103_2.out x4_2 p104 q104
                            cases e104
                            have HR104_5 := Aside0.mk hi104_5
                            have HC104_5 := Aside0.mk hl104_5
                            clear hi104_5 hl104_5
                            replace p104 := eq_true p104
                            replace q104 := eq_true q104
                            go_wp2
                            go_ret
                            exact ⟨by first | rfl | (simp; done) | (simp [*]; done), by repeat (first | exact Drawn0.refl _ | apply Drawn0.step)⟩
                          · rw [if_neg c10] at H
                            obtain ⟨c10b0, c10b1⟩ := qd c10
                            by_cases c11 : ((rd_T40 ((rd_T43 l0 x3_1).f2) x4_2).f0) = 6
                            · rw [if_pos c11] at H
                              obtain ⟨c11b0, c11b1⟩ := qe c11
                              clear c11
                              obtain rfl := Option.some.inj H
                              have p102 : 0 ≤ (x3_1 : Int) := qa
                              have q102 : x3_1 < (l0.length : Int) := qa
                              obtain ⟨ad102, A102_2, c102_2, e102, hx102_0, hx102_1, hx102_2, hl102_2, hi102_2⟩ := at_T43 HR0.out x3_1 p102 q102
                              obtain rfl : ad101 = ad102 := (by injection e102)
                              have HR102_2 := Aside0.mk hi102_2
                              have HC102_2 := Aside0.mk hl102_2
                              clear hi102_2 hl102_2
                              replace p102 := eq_true p102
                              replace q102 := eq_true q102
                              have p103 : 0 ≤ (x3_1 : Int) := qa
                              have q103 : x3_1 < (l0.length : Int) := qa
                              obtain ⟨ad103, A103_2, c103_2, e103, hx103_0, hx103_1, hx103_2, hl103_2, hi103_2⟩ := at_T43 HR0.out x3_1 p103 q103
                              obtain rfl : ad101 = ad103 := (by injection e103)
                              have HR103_2 := Aside0.mk hi103_2
                              have HC103_2 := Aside0.mk hl103_2
                              clear hi103_2 hl103_2
                              replace p103 := eq_true p103
                              replace q103 := eq_true q103
                              have ea_ := Option.some.inj (hx102_2.symm.trans hx103_2)
                              injection ea_ with ea_ en_ ec_
                              subst ea_
                              subst ec_
                              clear en_
                              have p104 : 0 ≤ (x4_2 : Int) := qa
                              have q104 : x4_2 < (((rd_T43 l0 x3_1).f2).length : Int) := qa
                              obtain ⟨ad104, A104_5, c104_5, e104, hx104_0, hx104_1, hx104_2, hx104_3, hx104_4, hx104_5, hl104_5, hi104_5⟩ := at_T40 HR103_2.out x4_2 p104 q104
                              cases e104
                              have HR104_5 := Aside0.mk hi104_5
                              have HC104_5 := Aside0.mk hl104_5
                              clear hi104_5 hl104_5
                              replace p104 := eq_true p104
                              replace q104 := eq_true q104
                              go_wp2
                              go_ret
                              exact ⟨by first | rfl | (simp; done) | (simp [*]; done), by repeat (first | exact Drawn0.refl _ | apply Drawn0.step)⟩
                            · rw [if_neg c11] at H
                              obtain ⟨c11b0, c11b1⟩ := qd c11
                              by_cases c12 : ((rd_T40 ((rd_T43 l0 x3_1).f2) x4_2).f0) = 9
                              · rw [if_pos c12] at H
                                obtain ⟨c12b0, c12b1⟩ := qe c12
                                clear c12
                                obtain rfl := Option.some.inj H
                                have p102 : 0 ≤ (x3_1 : Int) := qa
                                have q102 : x3_1 < (l0.length : Int) := qa
                                obtain ⟨ad102, A102_2, c102_2, e102, hx102_0, hx102_1, hx102_2, hl102_2, hi102_2⟩ := at_T43 HR0.out x3_1 p102 q102
                                obtain rfl : ad101 = ad102 := (by injection e102)
                                have HR102_2 := Aside0.mk hi102_2
                                have HC102_2 := Aside0.mk hl102_2
                                clear hi102_2 hl102_2
                                replace p102 := eq_true p102
                                replace q102 := eq_true q102
                                have p103 : 0 ≤ (x3_1 : Int) := qa
                                have q103 : x3_1 < (l0.length : Int) := qa
                                obtain ⟨ad103, A103_2, c103_2, e103, hx103_0, hx103_1, hx103_2, hl103_2, hi103_2⟩ := at_T43 HR0.out x3_1 p103 q103
                                obtain rfl : ad101 = ad103 := (by injection e103)
                                have HR103_2 := Aside0.mk hi103_2
                                have HC103_2 := Aside0.mk hl103_2
                                clear hi103_2 hl103_2
                                replace p103 := eq_true p103
                                replace q103 := eq_true q103
                                have ea_ := Option.some.inj (hx102_2.symm.trans hx103_2)
                                injection ea_ with ea_ en_ ec_
                                subst ea_
                                subst ec_
                                clear en_
                                have p104 : 0 ≤ (x4_2 : Int) := qa
                                have q104 : x4_2 < (((rd_T43 l0 x3_1).f2).length : Int) := qa
                                obtain ⟨ad104, A104_5, c104_5, e104, hx104_0, hx104_1, hx104_2, hx104_3, hx104_4, hx104_5, hl104_5, hi104_5⟩ := at_T40 HR103_2.out x4_2 p104 q104
                                cases e104
                                have HR104_5 := Aside0.mk hi104_5
                                have HC104_5 := Aside0.mk hl104_5
                                clear hi104_5 hl104_5
                                replace p104 := eq_true p104
                                replace q104 := eq_true q104
                                go_wp2
                                go_ret
                                exact ⟨by first | rfl | (simp; done) | (simp [*]; done), by repeat (first | exact Drawn0.refl _ | apply Drawn0.step)⟩
                              · rw [if_neg c12] at H
                                obtain ⟨c12b0, c12b1⟩ := qd c12
                                have H' := Aside0.mk H
                                clear H
                                have p102 : 0 ≤ (x3_1 : Int) := qa
                                have q102 : x3_1 < (l0.length : Int) := qa
                                obtain ⟨ad102, A102_2, c102_2, e102, hx102_0, hx102_1, hx102_2, hl102_2, hi102_2⟩ := at_T43 HR0.out x3_1 p102 q102
                                obtain rfl : ad101 = ad102 := (by injection e102)
                                have HR102_2 := Aside0.mk hi102_2
                                have HC102_2 := Aside0.mk hl102_2
                                clear hi102_2 hl102_2
                                replace p102 := eq_true p102
                                replace q102 := eq_true q102
                                have p103 : 0 ≤ (x3_1 : Int) := qa
                                have q103 : x3_1 < (l0.length : Int) := qa
                                obtain ⟨ad103, A103_2, c103_2, e103, hx103_0, hx103_1, hx103_2, hl103_2, hi103_2⟩ := at_T43 HR0.out x3_1 p103 q103
                                obtain rfl : ad101 = ad103 := (by injection e103)
                                have HR103_2 := Aside0.mk hi103_2
                                have HC103_2 := Aside0.mk hl103_2
                                clear hi103_2 hl103_2
                                replace p103 := eq_true p103
                                replace q103 := eq_true q103
                                have ea_ := Option.some.inj (hx102_2.symm.trans hx103_2)
                                injection ea_ with ea_ en_ ec_
                                subst ea_
                                subst ec_
                                clear en_
                                have p104 : 0 ≤ (x4_2 : Int) := qa
                                have q104 : x4_2 < (((rd_T43 l0 x3_1).f2).length : Int) := qa
                                obtain ⟨ad104, A104_5, c104_5, e104, hx104_0, hx104_1, hx104_2, hx104_3, hx104_4, hx104_5, hl104_5, hi104_5⟩ := at_T40 HR103_2.out x4_2 p104 q104
                                cases e104
                                have HR104_5 := Aside0.mk hi104_5
                                have HC104_5 := Aside0.mk hl104_5
                                clear hi104_5 hl104_5
                                replace p104 := eq_true p104
                                replace q104 := eq_true q104
                                go_wp2
                                go_roundg k2
                                case measure => have := HK1.out; have := HK2.out; omega
                                case rel => exact ⟨(wrap64 (x4_2 + 1)), qv, H', ⟨by have := HK1.out; have := HK2.out; omega⟩, by repeat (first | exact Drawn0.refl _ | apply Drawn0.step)⟩
                      · rw [if_neg c8] at H
                        exact absurd H (by simp)
                    · rw [if_neg c7] at H
                      have c7b0 : decide (x4_2 < (((rd_T43 l0 x3_1).f2).length : Int)) = false := decide_eq_false c7
                      clear c7
                      have H' := Aside0.mk H
                      clear H
                      have p102 : 0 ≤ (x3_1 : Int) := qa
                      have q102 : x3_1 < (l0.length : Int) := qa
                      obtain ⟨ad102, A102_2, c102_2, e102, hx102_0, hx102_1, hx102_2, hl102_2, hi102_2⟩ := at_T43 HR0.out x3_1 p102 q102
                      obtain rfl : ad101 = ad102 := (by injection e102)
                      have HR102_2 := Aside0.mk hi102_2
                      have HC102_2 := Aside0.mk hl102_2
                      clear hi102_2 hl102_2
                      replace p102 := eq_true p102
                      replace q102 := eq_true q102
                      go_wp2
                      go_roundg k2
                      case measure => have := HK1.out; have := HK2.out; omega
                      case rel => exact ⟨(wrap64 (x3_1 + 1)), qv, H', ⟨by have := HK1.out; have := HK2.out; omega⟩, by repeat (first | exact Drawn0.refl _ | apply Drawn0.step)⟩
                  · rw [if_neg c6] at H
                    exact absurd H (by simp)
                · rw [if_neg c5] at H
                  exact absurd H (by simp)
        · rw [if_neg c3] at H
          exact absurd H (by simp)
      · rw [if_neg c2] at H
        have c2b0 : decide (x3_1 < (l0.length : Int)) = false := decide_eq_false c2
        clear c2
        obtain rfl := Option.some.inj H
        go_wp2
        go_ret
        exact ⟨by first | rfl | (simp; done) | (simp [*]; done), by repeat (first | exact Drawn0.refl _ | apply Drawn0.step)⟩
def malthouseref09_Place.l0 : Nat → List ByteArray → ByteArray → Int → Option (Int)
  | 0, _, _, _ => none
  | k + 1, x0, x1, x5 => if x5 < (x0.length : Int) then (if 0 ≤ x5 then (if (rdOf ByteArray.empty x0 x5).toList = x1.toList then (some x5) else (malthouseref09_Place.l0 k x0 x1 (wrap64 (x5 + 1)))) else (none)) else (some (-1))
def malthouseref09_Place.f (k : Nat) (l0 : List ByteArray) (a1 : ByteArray) : Option (Int) := malthouseref09_Place.l0 k l0 a1 0
theorem malthouseref09_Place.mono_l : ∀ k, (∀ y0 y1 y2, LeO (malthouseref09_Place.l0 k y0 y1 y2) (malthouseref09_Place.l0 (k + 1) y0 y1 y2))
  | 0 => fun _ _ _ r h => by simp [malthouseref09_Place.l0] at h
  | k + 1 => by
    have ih0 := malthouseref09_Place.mono_l k
    · intro y0 y1 y2
      unfold malthouseref09_Place.l0
      repeat' first
      | (with_reducible exact ih0 _ _ _)
      | (with_reducible exact LeO.refl _)
      | (with_reducible exact LeO.none _)
      | (with_reducible refine LeO.ite ?_ ?_)
      | (with_reducible refine LeO.bind ?_ (fun _ => ?_))
      | exact ih0 _ _ _
      | exact LeO.none _
      | refine LeO.ite ?_ ?_
      | refine LeO.bind ?_ (fun _ => ?_)
theorem malthouseref09_Place.mono : ∀ a0 a1 k, LeO (malthouseref09_Place.f k a0 a1) (malthouseref09_Place.f (k + 1) a0 a1) := by
  intro a0 a1 k
  have ih0 := malthouseref09_Place.mono_l k
  unfold malthouseref09_Place.f
  repeat' first
      | (with_reducible exact ih0 _ _ _)
      | (with_reducible exact LeO.refl _)
      | (with_reducible exact LeO.none _)
      | (with_reducible refine LeO.ite ?_ ?_)
      | (with_reducible refine LeO.bind ?_ (fun _ => ?_))
      | exact ih0 _ _ _
      | exact LeO.none _
      | refine LeO.ite ?_ ?_
      | refine LeO.bind ?_ (fun _ => ?_)
set_option maxHeartbeats 8000000 in
set_option maxRecDepth 100000 in
theorem malthouseref09_Place.calls (k : Nat) (A0 : Option Addr) (c0 : Nat) (l0 : List ByteArray) (a1 : ByteArray) (r : Int) (w : World) (hr0 : Kd.C Kd.string w A0 l0.length l0) (hc0 : l0.length ≤ c0) (h : malthouseref09_Place.f k l0 a1 = some r) :
    Calls Tryd.prog 33 #[.slice A0 l0.length c0, .string a1] w fun e w' => e = .returned (.int .i64 r) ∧ Drawn0 w w' := by
  have HR0 := Aside0.mk hr0
  have HC0 := Aside0.mk hc0
  clear hr0 hc0
  have H : (malthouseref09_Place.l0 k l0 a1 0) = some r := h
  clear h
  have H' := Aside0.mk H
  clear H
  go_enter Tryd.func33, Tryd.ntmps33
  go_wp2
  go_loopg [5] k (fun kq v5 w' => ∃ (x5_1 : Int), v5 = .int .i64 x5_1 ∧ Aside0 (malthouseref09_Place.l0 kq l0 a1 x5_1 = some r) ∧ Aside0 (kq ≤ k) ∧ Drawn0 w w')
  case atStart => exact ⟨(0), qv, H', ⟨Nat.le_refl _⟩, by repeat (first | exact Drawn0.refl _ | apply Drawn0.step)⟩
  case round =>
    clear H'
    obtain ⟨x5_1, rfl, HA, HK1, ⟨m1, rfl⟩⟩ := hrel
    cases gk with
    | zero => exact absurd HA.out (by simp [malthouseref09_Place.l0])
    | succ k1 =>
      have H := HA.out
      clear HA
      simp only [malthouseref09_Place.l0] at H
      by_cases c3 : x5_1 < (l0.length : Int)
      · rw [if_pos c3] at H
        have c3b0 : decide (x5_1 < (l0.length : Int)) = true := decide_eq_true c3
        clear c3
        by_cases c4 : 0 ≤ x5_1
        · rw [if_pos c4] at H
          have c4b0 : decide (0 ≤ x5_1) = true := decide_eq_true c4
          clear c4
          by_cases c5 : (rdOf ByteArray.empty l0 x5_1).toList = a1.toList
          · rw [if_pos c5] at H
            obtain ⟨c5b0, c5b1⟩ := qe c5
            clear c5
            obtain rfl := Option.some.inj H
            have p101 : 0 ≤ (x5_1 : Int) := qa
            have q101 : x5_1 < (l0.length : Int) := qa
            obtain ⟨ad101, e101, hx101_0⟩ := Kd.at_string HR0.out x5_1 p101 q101
            cases e101
            replace p101 := eq_true p101
            replace q101 := eq_true q101
            go_wp2
            go_ret
            exact ⟨by first | rfl | (simp; done) | (simp [*]; done), by repeat (first | exact Drawn0.refl _ | apply Drawn0.step)⟩
          · rw [if_neg c5] at H
            obtain ⟨c5b0, c5b1⟩ := qd c5
            have H' := Aside0.mk H
            clear H
            have p101 : 0 ≤ (x5_1 : Int) := qa
            have q101 : x5_1 < (l0.length : Int) := qa
            obtain ⟨ad101, e101, hx101_0⟩ := Kd.at_string HR0.out x5_1 p101 q101
            cases e101
            replace p101 := eq_true p101
            replace q101 := eq_true q101
            go_wp2
            go_roundg k1
            case measure => have := HK1.out; omega
            case rel => exact ⟨(wrap64 (x5_1 + 1)), qv, H', ⟨by have := HK1.out; omega⟩, by repeat (first | exact Drawn0.refl _ | apply Drawn0.step)⟩
        · rw [if_neg c4] at H
          exact absurd H (by simp)
      · rw [if_neg c3] at H
        have c3b0 : decide (x5_1 < (l0.length : Int)) = false := decide_eq_false c3
        clear c3
        obtain rfl := Option.some.inj H
        go_wp2
        go_ret
        exact ⟨by first | rfl | (simp; done) | (simp [*]; done), by repeat (first | exact Drawn0.refl _ | apply Drawn0.step)⟩
def malthouselaw09_below.f (a0 : ByteArray) (a1 : Int) : Option (Int × ByteArray × Int × Int × ByteArray × (List (S34))) := some (2, (⟨#[]⟩ : ByteArray), 9, 0, (⟨#[]⟩ : ByteArray), (([(⟨1, 0, a0, ([] : List (S34))⟩ : S34), (⟨0, a1, (⟨#[]⟩ : ByteArray), ([] : List (S34))⟩ : S34)] : List (S34))))
set_option maxHeartbeats 8000000 in
set_option maxRecDepth 100000 in
theorem malthouselaw09_below.calls (a0 : ByteArray) (a1 : Int) (r1 : Int) (r2 : ByteArray) (r3 : Int) (r4 : Int) (r5 : ByteArray) (r6 : List (S34)) (w : World) (h : malthouselaw09_below.f a0 a1 = some (r1, r2, r3, r4, r5, r6)) :
    Calls Tryd.prog 57 #[.string a0, .int .i64 a1] w fun e w' => ∃ v5_ : Value, e = .returned (.agg #[.int .i64 r1, .string r2, .int .i64 r3, .int .i64 r4, .string r5, v5_]) ∧ Kd.R k34 34 w' w.heap.size (fun _ => True) v5_ r6 ∧ Below w.heap.size w w' := by
  have hu40 := Tryd.underlying40
  have hu34 := Tryd.underlying34
  have HB := Aside0.mk (Below.refl w.heap.size w)
  have H : (some (2, (⟨#[]⟩ : ByteArray), 9, 0, (⟨#[]⟩ : ByteArray), (([(⟨1, 0, a0, ([] : List (S34))⟩ : S34), (⟨0, a1, (⟨#[]⟩ : ByteArray), ([] : List (S34))⟩ : S34)] : List (S34))))) = some (r1, r2, r3, r4, r5, r6) := h
  clear h
  obtain ⟨y102, hy102⟩ : ∃ y_ : List (S34), y_ = (([(⟨1, 0, a0, ([] : List (S34))⟩ : S34), (⟨0, a1, (⟨#[]⟩ : ByteArray), ([] : List (S34))⟩ : S34)] : List (S34))) := ⟨_, rfl⟩
  replace H : (some (2, (⟨#[]⟩ : ByteArray), 9, 0, (⟨#[]⟩ : ByteArray), y102)) = some (r1, r2, r3, r4, r5, r6) := by first | (rw [hy102]; with_reducible exact H) | (have H2_ := (Option.bind_some _ _).symm.trans H; rw [hy102]; with_reducible exact H2_) | (have H2_ := (Option.bind_some _ _).symm.trans H; with_reducible exact H2_) | with_reducible exact H | (rw [hy102]; exact H) | exact H
  have Ny102 := Aside0.mk hy102
  clear hy102
  simp only [Option.some.injEq, Prod.mk.injEq] at H
  obtain ⟨rfl, rfl, rfl, rfl, rfl, rfl⟩ := H
  go_enter Tryd.func57, Tryd.ntmps57
  go_wp2_with (first | ((with_reducible refine gate_dst (N := 4) rfl ?_); refine box_event ?hg (N := 4) ?hd (cs := #[.int .i64 0, .string (⟨#[]⟩ : ByteArray), .int .i64 0, .int .i64 0, .string (⟨#[]⟩ : ByteArray), .slice none 0 0]) (t := 40) ?hr ?_; (case hd => rfl); (case hg => rfl); (case hr => first | (go_simp; done) | (go_simp; rfl)); intro gb101 hg w3 hbox hb; have n0_ := qs hb; have n1_ := Aside0.mk (hbox); have n2_ := Aside0.mk ((by rw [hg]; exact (below_size qb) : w.heap.size ≤ gb101)); have n3_ := Aside0.mk ((by rw [hg]; exact (below_size qb) : w.heap.size ≤ gb101)); clear HB; have HB := n0_; have BK101 := n1_; have GW101 := n2_; have GE101 := n3_; clear n0_ n1_ n2_ n3_; clear hb hbox hg) | ((with_reducible refine gate_dst (N := 9) rfl ?_); refine Kd.R_lit k34 _ 34 ?hg (N := 9) ?hd (xs := ([(⟨1, 0, a0, ([] : List (S34))⟩ : S34), (⟨0, a1, (⟨#[]⟩ : ByteArray), ([] : List (S34))⟩ : S34)] : List (S34))) (inner := [.int .i64 1, .int .i64 0, .string a0, .slice none 0 0, .int .i64 0, .int .i64 a1, .string (⟨#[]⟩ : ByteArray), .slice none 0 0]) (ok := fun _ => True) (okp := fun _ => True) ?hr ?hp (fun _ hk => hk) trivial (Below.refl _ _) (Nat.le_refl _) (by simp) ?_; (case hd => rfl); (case hg => rfl); (case hr => first | (go_simp; done) | (go_simp; rfl)); (case hp => exact (Reps.c4 (show Kd.M k34 _ _ _ (⟨1, 0, a0, ([] : List (S34))⟩ : S34) [.int .i64 1, .int .i64 0, .string a0, .slice none 0 0] from (k34_mkM _ _ _ (⟨1, 0, a0, ([] : List (S34))⟩ : S34) (Kd.R_nil _ _ _ _ _))) (Reps.c4 (show Kd.M k34 _ _ _ (⟨0, a1, (⟨#[]⟩ : ByteArray), ([] : List (S34))⟩ : S34) [.int .i64 0, .int .i64 a1, .string (⟨#[]⟩ : ByteArray), .slice none 0 0] from (k34_mkM _ _ _ (⟨0, a1, (⟨#[]⟩ : ByteArray), ([] : List (S34))⟩ : S34) (Kd.R_nil _ _ _ _ _))) (Reps.none _ _)))); intro v103 w4 ho5 hb hg_ hnew_; clear hg_ hnew_; (first | rw [← Ny102.out] at ho5 | (simp only [Int.reduceToNat] at ho5; rw [← Ny102.out] at ho5)); have n0_ := Aside0.mk (Kd.R_lower ho5 (below_size qb)); have n1_ := qn (g := gb101) hb; have n2_ := qs hb; clear BK101; clear HB; have HO104 := n0_; have BK101 := n1_; have HB := n2_; clear n0_ n1_ n2_; clear hb ho5; obtain ⟨Ao6, co6, eo6⟩ := Kd.R_slice HO104.out; subst eo6; obtain ⟨_, _, _, _, _, _, _, _, _, _, _, _⟩ := q6 BK101.out))
  refine bodyPost_ret (results_cell_row rfl _ _ gb101 40 #[.int .i64 2, .string (⟨#[]⟩ : ByteArray), .int .i64 9, .int .i64 0, .string (⟨#[]⟩ : ByteArray), .slice Ao6 y102.length co6] (0, 0) _ rfl qy Tryd.underlying40 rfl (by kernel_rfl)) rfl ?_
  exact ⟨_, by first | rfl | (simp [errW_none, errW_some] <;> rfl) | (simp [*, errW_none, errW_some] <;> rfl), by (with_reducible repeat (first | apply Kd.R_alloc | apply Kd.R_drewN | apply Kd.R_drew)); exact Kd.R_mono (Kd.R_far (p := ⟨gb101, 5, none⟩) (Kd.R_far (p := ⟨gb101, 4, none⟩) (Kd.R_far (p := ⟨gb101, 3, none⟩) (Kd.R_far (p := ⟨gb101, 2, none⟩) (Kd.R_far (p := ⟨gb101, 1, none⟩) (Kd.R_far (p := ⟨gb101, 0, none⟩) (Kd.R_types HO104.out BK101.out (by decide)) (fun _ hk => hk.2) (.int .i64 2)) (fun _ hk => hk.2) (.string (⟨#[]⟩ : ByteArray))) (fun _ hk => hk.2) (.int .i64 9)) (fun _ hk => hk.2) (.int .i64 0)) (fun _ hk => hk.2) (.string (⟨#[]⟩ : ByteArray))) (fun _ hk => hk.2) (.slice Ao6 y102.length co6)) (fun _ hk => trivial), qb⟩
end Go.Proofs.YtiaccdaeomaogaaDoor.F
