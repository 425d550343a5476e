/- Texts of one claim, slimmed and merged by slim.py. -/
import Derived.Lib.LazyBuf
import Derived.Test.YtiaccdaeomaogaaDoorR4
import Derived.Test.YtiaccdaeomaogaaDoorR12
import Derived.Test.YtiaccdaeomaogaaDoorR15
namespace Go.Proofs.YtiaccdaeomaogaaDoor.F
open Go.RowKit Go.Proofs.YtiaccdaeomaogaaDoorW.PrintWords Go.Proofs.YtiaccdaeomaogaaDoorW.PrintLast Go.Proofs.YtiaccdaeomaogaaDoorW.PrintMore
attribute [local go_sem] max2_int min2_int max_two min_two max_three min_three max_four min_four   -- for this text's walks alone
set_option linter.unusedVariables false
set_option linter.unusedSimpArgs false
theorem info4c : (Tryd.prog.info? 4).map (fun i => (i.zero, i.size, i.bytes)) = some (some (.bool false), 1, 1) := by kernel_rfl
def slices_Clone_bool_bool.f (l0 : List Bool) : Option (List Bool) := if l0.length < 1000000000 then some l0 else none
set_option maxHeartbeats 4000000 in
set_option maxRecDepth 100000 in
theorem slices_Clone_bool_bool.calls (A0 : Option Addr) (c0 : Nat) (l0 : List Bool) (r : List Bool) (w : World) (hr0 : Kd.C Kd.bool w A0 l0.length l0) (hc0 : l0.length ≤ c0) (h : slices_Clone_bool_bool.f l0 = some r) :
    Calls Tryd.prog 65 #[.slice A0 l0.length c0] w fun e w' => ∃ v0_ : Value, e = .returned (v0_) ∧ Kd.R Kd.bool 4 w' w.heap.size (fun _ => True) v0_ r ∧ Below w.heap.size w w' := by
  unfold slices_Clone_bool_bool.f at h
  by_cases hl : l0.length < 1000000000
  case neg => rw [if_neg hl] at h; cases h
  rw [if_pos hl] at h
  obtain rfl := Option.some.inj h
  have heq := fun (w' : World) => Go.run_eql_slice_nil (P := Tryd.prog) w' 46 4 A0 l0.length c0 Tryd.underlying46
  cases A0 with
  | none =>
    have h0 : l0 = [] := by
      rcases Nat.eq_zero_or_pos l0.length with h | h
      · exact List.eq_nil_of_length_eq_zero h
      obtain ⟨ad, e, _⟩ := hr0.2.2 h; cases e
    subst h0
    simp only [List.length_nil] at heq
    clear hr0 hl hc0 h
    go_enter Tryd.func65, Tryd.ntmps65
    go_wp2
    go_ret
    exact ⟨_, rfl, Kd.R_nil _ _ _ _ _, by repeat (first | exact Below.refl _ _ | apply pw_below_drewN | apply below_drew1)⟩
  | some ad =>
    have HR := Aside0.mk hr0
    have HL := Aside0.mk hl
    clear hr0 hl hc0 h
    go_enter Tryd.func65, Tryd.ntmps65
    go_wp2_with (first | ((with_reducible refine gate_builtin (b := .append) (xs := #[.tmp 5, .tmp 6]) rfl ?_); at_builtin; refine Kd.R_append_row Value.bool false (h1 := fun _ => rfl) (w0 := w) w.heap.size rfl (.tmp 5) (.tmp 6) 46 4 (.bool false) 1 rfl Tryd.underlying46 info4c rfl (by decide) (.slice (some ⟨w.heap.size, 0, none⟩) 0 0) [] l0 (some ad) l0.length c0 (fun _ => True) rfl rfl (fun _ _ => trivial) (Kd.R_of_own (own_lit_of (enc := Value.bool) w w.heap.size 4 [] (Nat.le_refl _) (by simp)) (fun _ _ => trivial)) (Kd.C_alloc HR.out _) (below_alloc (Below.refl _ w) _) (below_size (below_alloc (Below.refl _ w) _)) (by have := HL.out; simp; omega) ?_; intro v1 w1 ho hb hg hat; have ho2 : Kd.R Kd.bool 4 w1 w.heap.size (fun _ => True) v1 l0 := (by have h9 := ho; rw [List.nil_append] at h9; exact h9); have HO1 := Aside0.mk ho2; have HB1 := Aside0.mk hb; clear ho ho2 hb hg hat))
    go_ret
    exact ⟨_, rfl, HO1.out, HB1.out⟩
end Go.Proofs.YtiaccdaeomaogaaDoor.F
namespace Go.Proofs.YtiaccdaeomaogaaDoor.F
open Go.RowKit Go.Proofs.YtiaccdaeomaogaaDoorW.PrintWords Go.Proofs.YtiaccdaeomaogaaDoorW.PrintLast Go.Proofs.YtiaccdaeomaogaaDoorW.PrintMore
set_option linter.unusedVariables false
set_option linter.unusedSimpArgs false
def idxF (k : Nat) (nm : List ByteArray) (bs : List Bool) (name : ByteArray) : Option Int := (slices_Index_string_string.f k nm name).bind fun i => if 0 ≤ i ∧ i < (bs.length : Int) then some i else none
theorem idxF_some {k : Nat} {nm : List ByteArray} {bs : List Bool} {name : ByteArray} {i : Int} (h : idxF k nm bs name = some i) : slices_Index_string_string.f k nm name = some i ∧ 0 ≤ i ∧ i < (bs.length : Int) := by
 unfold idxF at h
 obtain ⟨j, hj, h⟩ := Option.bind_eq_some_iff.mp h
 by_cases hc : 0 ≤ j ∧ j < (bs.length : Int)
 ·rw [if_pos hc] at h
  obtain rfl := Option.some.inj h
  exact ⟨hj, hc⟩
 rw [if_neg hc] at h; cases h
theorem idxF_mono (k : Nat) (nm : List ByteArray) (bs : List Bool) (name : ByteArray) : LeO (idxF k nm bs name) (idxF (k + 1) nm bs name) := LeO.bind (slices_Index_string_string.mono _ _ _) (fun _ => LeO.refl _)
def insF (k : Nat) (nm : List ByteArray) (bs : List Bool) (en : List S69) (x : S40) (st : List Bool) : Option (List Bool) :=
  if st.length < 1000000 then
    (if x.f0 = 0 then (idxF k nm bs x.f1).bind fun i => some (st ++ [rdOf false bs i])
    else if x.f0 = 1 then (idxF k nm bs x.f1).bind fun i => some (st ++ [!rdOf false bs i])
    else if x.f0 = 2 then (expr_Eval.f k x.f2.f0 x.f2.f1 x.f2.f2 x.f2.f3 en).bind fun p => some (st ++ [p.2 == 0 && !(p.1 == 0)])
    else if (st.length : Int) - 1 < 0 then none
    else if x.f0 = 3 then (if rdOf false st ((st.length : Int) - 1) = true then (idxF k nm bs x.f1).bind fun i => some (st.set ((st.length : Int) - 1).toNat (rdOf false bs i)) else some (st.set ((st.length : Int) - 1).toNat false))
    else if x.f0 = 4 then (if rdOf false st ((st.length : Int) - 1) = true then (idxF k nm bs x.f1).bind fun i => some (st.set ((st.length : Int) - 1).toNat (!rdOf false bs i)) else some (st.set ((st.length : Int) - 1).toNat false))
    else if x.f0 = 5 then (if rdOf false st ((st.length : Int) - 1) = true then some (st.set ((st.length : Int) - 1).toNat true) else (idxF k nm bs x.f1).bind fun i => some (st.set ((st.length : Int) - 1).toNat (rdOf false bs i)))
    else if x.f0 = 6 then (if rdOf false st ((st.length : Int) - 1) = true then some (st.set ((st.length : Int) - 1).toNat true) else (idxF k nm bs x.f1).bind fun i => some (st.set ((st.length : Int) - 1).toNat (!rdOf false bs i)))
    else if x.f0 = 9 then some (st.set ((st.length : Int) - 1).toNat (!rdOf false st ((st.length : Int) - 1)))
    else if (st.length : Int) - 1 < 1 then none
    else if x.f0 = 7 then some (st.take ((st.length : Int) - 1 - 1).toNat ++ [rdOf false st ((st.length : Int) - 1 - 1) && rdOf false st ((st.length : Int) - 1)])
    else if x.f0 = 8 then some (st.take ((st.length : Int) - 1 - 1).toNat ++ [rdOf false st ((st.length : Int) - 1 - 1) || rdOf false st ((st.length : Int) - 1)])
    else none)
  else none
theorem insF_mono (k : Nat) (nm : List ByteArray) (bs : List Bool) (en : List S69) (x : S40) (st : List Bool) : LeO (insF k nm bs en x st) (insF (k + 1) nm bs en x st) := by
  unfold insF
  repeat' first
    | exact LeO.refl _
    | exact idxF_mono _ _ _ _
    | exact expr_Eval.mono _ _ _ _ _ _
    | refine LeO.ite ?_ ?_
    | refine LeO.bind ?_ (fun _ => ?_)
theorem do_calls (k : Nat) (W w : World) (g : Nat) (nm : List ByteArray) (bs : List Bool) (en : List S69) (st : List Bool) (AN : Option Addr) (cN : Nat) (AB : Option Addr) (cB : Nat) (AE : Option Addr) (cE : Nat) (AS : Option Addr) (cS : Nat) (x : S40) (AX : Option Addr) (cX : Nat) (h : Mach W w g nm bs en st AN cN AB cB AE cE AS cS) (hks : Kd.C k34 W AX x.f2.f3.length x.f2.f3) (hkc : x.f2.f3.length ≤ cX) (hT : UT W) (st' : List Bool) (hi : insF k nm bs en x st = some st') :
  Calls Tryd.prog 67 #[.pointer (some ⟨g, 0, none⟩), .agg #[.int .i64 x.f0, .string x.f1, .int .i64 x.f2.f0, .int .i64 x.f2.f1, .string x.f2.f2, .slice AX x.f2.f3.length cX]] w (DoPost W w g nm bs en AN cN AB cB AE cE st') := by
 unfold insF at hi
 by_cases hl : st.length < 1000000
 case neg => rw [if_neg hl] at hi; cases hi
 rw [if_pos hl] at hi
 by_cases o0 : x.f0 = 0
 ·rw [if_pos o0] at hi
  obtain ⟨i, hx, hi⟩ := Option.bind_eq_some_iff.mp hi
  obtain ⟨h1, h2, h3⟩ := idxF_some hx
  obtain rfl := Option.some.inj hi
  rw [o0]
  exact do_ld0 W w g nm bs en st AN cN AB cB AE cE AS cS _ _ _ _ AX _ cX h k i h1 h2 h3 hl
 rw [if_neg o0] at hi
 by_cases o1 : x.f0 = 1
 ·rw [if_pos o1] at hi
  obtain ⟨i, hx, hi⟩ := Option.bind_eq_some_iff.mp hi
  obtain ⟨h1, h2, h3⟩ := idxF_some hx
  obtain rfl := Option.some.inj hi
  rw [o1]
  exact do_ld1 W w g nm bs en st AN cN AB cB AE cE AS cS _ _ _ _ AX _ cX h k i h1 h2 h3 hl
 rw [if_neg o1] at hi
 by_cases o2 : x.f0 = 2
 ·rw [if_pos o2] at hi
  obtain ⟨⟨n, f⟩, hx, hi⟩ := Option.bind_eq_some_iff.mp hi
  obtain rfl := Option.some.inj hi
  rw [o2]
  by_cases hf : f = 0
  ·subst hf
   by_cases hn : n = 0
   ·subst hn
    exact do_cmp_zero W w g nm bs en st AN cN AB cB AE cE AS cS _ _ _ _ AX _ cX h _ rfl hks hkc hT k hx hl
   have e : ((0 : Int) == 0 && !(n == 0)) = true := by simp [hn]
   rw [show ((n, (0 : Int)).2 == 0 && !((n, (0 : Int)).1 == 0)) = true from e]
   exact do_cmp_one W w g nm bs en st AN cN AB cB AE cE AS cS _ _ _ _ AX _ cX h _ rfl hks hkc hT k n hx hn hl
  have e : (f == 0 && !(n == 0)) = false := by simp [hf]
  rw [show ((n, f).2 == 0 && !((n, f).1 == 0)) = false from e]
  exact do_cmp_err W w g nm bs en st AN cN AB cB AE cE AS cS _ _ _ _ AX _ cX h _ rfl hks hkc hT k n f hx hf hl
 rw [if_neg o2] at hi
 by_cases hL : (st.length : Int) - 1 < 0
 ·rw [if_pos hL] at hi; cases hi
 rw [if_neg hL] at hi
 have h0 : 0 ≤ (st.length : Int) - 1 := by omega
 by_cases o3 : x.f0 = 3
 ·rw [if_pos o3] at hi
  rw [o3]
  by_cases ht : rdOf false st ((st.length : Int) - 1) = true
  ·rw [if_pos ht] at hi
   obtain ⟨i, hx, hi⟩ := Option.bind_eq_some_iff.mp hi
   obtain ⟨h1, h2, h3⟩ := idxF_some hx
   obtain rfl := Option.some.inj hi
   exact do_and3on W w g nm bs en st AN cN AB cB AE cE AS cS _ _ _ _ AX _ cX h _ rfl h0 ht k i h1 h2 h3
  rw [if_neg ht] at hi
  obtain rfl := Option.some.inj hi
  exact do_and3off W w g nm bs en st AN cN AB cB AE cE AS cS _ _ _ _ AX _ cX h _ rfl h0 (Bool.eq_false_iff.mpr ht)
 rw [if_neg o3] at hi
 by_cases o4 : x.f0 = 4
 ·rw [if_pos o4] at hi
  rw [o4]
  by_cases ht : rdOf false st ((st.length : Int) - 1) = true
  ·rw [if_pos ht] at hi
   obtain ⟨i, hx, hi⟩ := Option.bind_eq_some_iff.mp hi
   obtain ⟨h1, h2, h3⟩ := idxF_some hx
   obtain rfl := Option.some.inj hi
   exact do_and4on W w g nm bs en st AN cN AB cB AE cE AS cS _ _ _ _ AX _ cX h _ rfl h0 ht k i h1 h2 h3
  rw [if_neg ht] at hi
  obtain rfl := Option.some.inj hi
  exact do_and4off W w g nm bs en st AN cN AB cB AE cE AS cS _ _ _ _ AX _ cX h _ rfl h0 (Bool.eq_false_iff.mpr ht)
 rw [if_neg o4] at hi
 by_cases o5 : x.f0 = 5
 ·rw [if_pos o5] at hi
  rw [o5]
  by_cases ht : rdOf false st ((st.length : Int) - 1) = true
  ·rw [if_pos ht] at hi
   obtain rfl := Option.some.inj hi
   exact do_or5off W w g nm bs en st AN cN AB cB AE cE AS cS _ _ _ _ AX _ cX h _ rfl h0 ht
  rw [if_neg ht] at hi
  obtain ⟨i, hx, hi⟩ := Option.bind_eq_some_iff.mp hi
  obtain ⟨h1, h2, h3⟩ := idxF_some hx
  obtain rfl := Option.some.inj hi
  exact do_or5on W w g nm bs en st AN cN AB cB AE cE AS cS _ _ _ _ AX _ cX h _ rfl h0 (Bool.eq_false_iff.mpr ht) k i h1 h2 h3
 rw [if_neg o5] at hi
 by_cases o6 : x.f0 = 6
 ·rw [if_pos o6] at hi
  rw [o6]
  by_cases ht : rdOf false st ((st.length : Int) - 1) = true
  ·rw [if_pos ht] at hi
   obtain rfl := Option.some.inj hi
   exact do_or6off W w g nm bs en st AN cN AB cB AE cE AS cS _ _ _ _ AX _ cX h _ rfl h0 ht
  rw [if_neg ht] at hi
  obtain ⟨i, hx, hi⟩ := Option.bind_eq_some_iff.mp hi
  obtain ⟨h1, h2, h3⟩ := idxF_some hx
  obtain rfl := Option.some.inj hi
  exact do_or6on W w g nm bs en st AN cN AB cB AE cE AS cS _ _ _ _ AX _ cX h _ rfl h0 (Bool.eq_false_iff.mpr ht) k i h1 h2 h3
 rw [if_neg o6] at hi
 by_cases o9 : x.f0 = 9
 ·rw [if_pos o9] at hi
  obtain rfl := Option.some.inj hi
  rw [o9]
  exact do_not W w g nm bs en st AN cN AB cB AE cE AS cS _ _ _ _ AX _ cX h _ rfl h0
 rw [if_neg o9] at hi
 by_cases hL1 : (st.length : Int) - 1 < 1
 ·rw [if_pos hL1] at hi; cases hi
 rw [if_neg hL1] at hi
 have h1 : 1 ≤ (st.length : Int) - 1 := by omega
 by_cases o7 : x.f0 = 7
 ·rw [if_pos o7] at hi
  obtain rfl := Option.some.inj hi
  rw [o7]
  cases ht : rdOf false st ((st.length : Int) - 1 - 1) with
  | true => rw [Bool.true_and]; exact do_anbon W w g nm bs en st AN cN AB cB AE cE AS cS _ _ _ _ AX _ cX h _ rfl h1 ht hl
  | false => rw [Bool.false_and]; exact do_anboff W w g nm bs en st AN cN AB cB AE cE AS cS _ _ _ _ AX _ cX h _ rfl h1 ht hl
 rw [if_neg o7] at hi
 by_cases o8 : x.f0 = 8
 ·rw [if_pos o8] at hi
  obtain rfl := Option.some.inj hi
  rw [o8]
  cases ht : rdOf false st ((st.length : Int) - 1 - 1) with
  | true => rw [Bool.true_or]; exact do_orboff W w g nm bs en st AN cN AB cB AE cE AS cS _ _ _ _ AX _ cX h _ rfl h1 ht hl
  | false => rw [Bool.false_or]; exact do_orbon W w g nm bs en st AN cN AB cB AE cE AS cS _ _ _ _ AX _ cX h _ rfl h1 ht hl
 rw [if_neg o8] at hi
 cases hi
set_option maxHeartbeats 4000000 in
set_option maxRecDepth 100000 in
theorem check_lit (k g : Nat) (A : Option Addr) (c : Nat) (l : List ByteArray) (nm : ByteArray) (r : Bool) (w : World) (hb : w.heap[g]? = some (.cells #[.slice A l.length c] 23 (0, 0))) (hr : Kd.C Kd.string w A l.length l) (hc : l.length ≤ c) (h : slices_Contains_string_string.f k l nm = some r) :
    Calls Tryd.prog 60 #[.string nm, .pointer (some ⟨g, 0, none⟩)] w fun e w' => e = .returned (.bool r) ∧ Drawn0 w w' := by
  have HX := Aside0.mk (slices_Contains_string_string.calls k A c l nm r w hr hc h)
  have hcell : w.cell? ⟨g, 0, none⟩ = some (.slice A l.length c) := (blk_cell hb 0).trans rfl
  clear hr hc hb h
  go_enter Tryd.func60, Tryd.ntmps60
  go_wp2_with (first | (go_at_call 61; (with_reducible refine HX.out.mono ?_); rintro e w' ⟨rfl, ⟨nd, rfl⟩⟩))
  go_ret
  exact ⟨rfl, by repeat (first | exact Drawn0.refl _ | apply Drawn0.step)⟩
set_option maxHeartbeats 4000000 in
set_option maxRecDepth 100000 in
theorem all_lit (nm : ByteArray) (w : World) :
    Calls Tryd.prog 66 #[.string nm] w fun e w' => e = .returned (.bool true) ∧ Drawn0 w w' := by
  go_enter Tryd.func66, Tryd.ntmps66
  go_wp2
  go_ret
  exact ⟨rfl, by repeat (first | exact Drawn0.refl _ | apply Drawn0.step)⟩
end Go.Proofs.YtiaccdaeomaogaaDoor.F
namespace Go.Proofs.YtiaccdaeomaogaaDoor.F
open Go.RowKit Go.Proofs.YtiaccdaeomaogaaDoorW.PrintWords Go.Proofs.YtiaccdaeomaogaaDoorW.PrintLast Go.Proofs.YtiaccdaeomaogaaDoorW.PrintMore
attribute [local go_sem] max2_int min2_int max_two min_two max_three min_three max_four min_four   -- for this text's walks alone
set_option linter.unusedVariables false
set_option linter.unusedSimpArgs false
def rung_blank.f (a0_0 : Int) (a0_1 : Int) (a0_2 : ByteArray) (l0_3 : List (S34)) : Option (Bool) := if a0_0 = 0 then (if a0_1 = 0 then (if a0_2.toList = ([] : List UInt8) then (some ((l0_3.length : Int) == 0)) else (some false)) else (some false)) else (some false)
set_option maxHeartbeats 8000000 in
set_option maxRecDepth 100000 in
theorem rung_blank.calls (a0_0 : Int) (a0_1 : Int) (a0_2 : ByteArray) (A0_3 : Option Addr) (c0_3 : Nat) (l0_3 : List (S34)) (r : Bool) (w : World) (hr0_3 : Kd.C k34 w A0_3 l0_3.length l0_3) (hc0_3 : l0_3.length ≤ c0_3) (h : rung_blank.f a0_0 a0_1 a0_2 l0_3 = some r) :
  Calls Tryd.prog 122 #[.agg #[.int .i64 a0_0, .int .i64 a0_1, .string a0_2, .slice A0_3 l0_3.length c0_3]] w fun e w' => e = .returned (.bool r) ∧ Below w.heap.size w w' := by
 have hu34 := Tryd.underlying34
 have HR0_3 := Aside0.mk hr0_3
 have HC0_3 := Aside0.mk hc0_3
 clear hr0_3 hc0_3
 have HB := Aside0.mk (Below.refl w.heap.size w)
 have H : (if a0_0 = 0 then (if a0_1 = 0 then (if a0_2.toList = ([] : List UInt8) then (some ((l0_3.length : Int) == 0)) else (some false)) else (some false)) else (some false)) = some r := h
 clear h
 by_cases c2 : a0_0 = 0
 ·rw [if_pos c2] at H
  obtain ⟨c2b0, c2b1⟩ := qe c2
  clear c2
  by_cases c3 : a0_1 = 0
  ·rw [if_pos c3] at H
   obtain ⟨c3b0, c3b1⟩ := qe c3
   clear c3
   by_cases c4 : a0_2.toList = ([] : List UInt8)
   ·rw [if_pos c4] at H
    obtain ⟨c4b0, c4b1⟩ := qe c4
    clear c4
    obtain rfl := Option.some.inj H
    go_enter Tryd.func122, Tryd.ntmps122
    go_wp2_with (first | ((with_reducible refine gate_dst (N := 1) rfl ?_); (try (refine gate_guard (by rfl) ?_; dsimp only)); refine box_event ?hg (N := 1) ?hd (cs := #[.int .i64 a0_0, .int .i64 a0_1, .string a0_2, .slice A0_3 l0_3.length c0_3]) (t := 34) ?hr ?_; (case hd => rfl); (case hg => rfl); (case hr => first | (go_simp; done) | (go_simp; rfl)); intro gb101 hg w5 hbox hb; have n0_ := qs hb; have n1_ := Aside0.mk (hbox); have n2_ := Aside0.mk ((by rw [hg]; exact (below_size qb) : w.heap.size ≤ gb101)); have n3_ := Aside0.mk ((by rw [hg]; exact (below_size qb) : w.heap.size ≤ gb101)); clear HB; have HB := n0_; have BK101 := n1_; have GW101 := n2_; have GE101 := n3_; clear n0_ n1_ n2_ n3_; clear hb hbox hg; obtain ⟨_, _, _, _, _, _, _, _⟩ := q4 BK101.out))
    go_ret
    exact qr
   rw [if_neg c4] at H
   obtain ⟨c4b0, c4b1⟩ := qd c4
   obtain rfl := Option.some.inj H
   go_enter Tryd.func122, Tryd.ntmps122
   go_wp2_with (first | ((with_reducible refine gate_dst (N := 1) rfl ?_); (try (refine gate_guard (by rfl) ?_; dsimp only)); refine box_event ?hg (N := 1) ?hd (cs := #[.int .i64 a0_0, .int .i64 a0_1, .string a0_2, .slice A0_3 l0_3.length c0_3]) (t := 34) ?hr ?_; (case hd => rfl); (case hg => rfl); (case hr => first | (go_simp; done) | (go_simp; rfl)); intro gb101 hg w7 hbox hb; have n0_ := qs hb; have n1_ := Aside0.mk (hbox); have n2_ := Aside0.mk ((by rw [hg]; exact (below_size qb) : w.heap.size ≤ gb101)); have n3_ := Aside0.mk ((by rw [hg]; exact (below_size qb) : w.heap.size ≤ gb101)); clear HB; have HB := n0_; have BK101 := n1_; have GW101 := n2_; have GE101 := n3_; clear n0_ n1_ n2_ n3_; clear hb hbox hg; obtain ⟨_, _, _, _, _, _, _, _⟩ := q4 BK101.out))
   go_ret
   exact qr
  rw [if_neg c3] at H
  obtain ⟨c3b0, c3b1⟩ := qd c3
  obtain rfl := Option.some.inj H
  go_enter Tryd.func122, Tryd.ntmps122
  go_wp2_with (first | ((with_reducible refine gate_dst (N := 1) rfl ?_); (try (refine gate_guard (by rfl) ?_; dsimp only)); refine box_event ?hg (N := 1) ?hd (cs := #[.int .i64 a0_0, .int .i64 a0_1, .string a0_2, .slice A0_3 l0_3.length c0_3]) (t := 34) ?hr ?_; (case hd => rfl); (case hg => rfl); (case hr => first | (go_simp; done) | (go_simp; rfl)); intro gb101 hg w9 hbox hb; have n0_ := qs hb; have n1_ := Aside0.mk (hbox); have n2_ := Aside0.mk ((by rw [hg]; exact (below_size qb) : w.heap.size ≤ gb101)); have n3_ := Aside0.mk ((by rw [hg]; exact (below_size qb) : w.heap.size ≤ gb101)); clear HB; have HB := n0_; have BK101 := n1_; have GW101 := n2_; have GE101 := n3_; clear n0_ n1_ n2_ n3_; clear hb hbox hg; obtain ⟨_, _, _, _, _, _, _, _⟩ := q4 BK101.out))
  go_ret
  exact qr
 rw [if_neg c2] at H
 obtain ⟨c2b0, c2b1⟩ := qd c2
 obtain rfl := Option.some.inj H
 go_enter Tryd.func122, Tryd.ntmps122
 go_wp2_with (first | ((with_reducible refine gate_dst (N := 1) rfl ?_); (try (refine gate_guard (by rfl) ?_; dsimp only)); refine box_event ?hg (N := 1) ?hd (cs := #[.int .i64 a0_0, .int .i64 a0_1, .string a0_2, .slice A0_3 l0_3.length c0_3]) (t := 34) ?hr ?_; (case hd => rfl); (case hg => rfl); (case hr => first | (go_simp; done) | (go_simp; rfl)); intro gb101 hg w11 hbox hb; have n0_ := qs hb; have n1_ := Aside0.mk (hbox); have n2_ := Aside0.mk ((by rw [hg]; exact (below_size qb) : w.heap.size ≤ gb101)); have n3_ := Aside0.mk ((by rw [hg]; exact (below_size qb) : w.heap.size ≤ gb101)); clear HB; have HB := n0_; have BK101 := n1_; have GW101 := n2_; have GE101 := n3_; clear n0_ n1_ n2_ n3_; clear hb hbox hg; obtain ⟨_, _, _, _, _, _, _, _⟩ := q4 BK101.out))
 go_ret
 exact qr
mutual
def rung_named.j0 : Nat → Int → Bool → Option (Bool × Int × Int × Bool)
  | 0, _, _ => none
  | k + 1, x6, x7 => if x7 = true then (some (true, 0, 1, true)) else (if x6 = 2 then (some (false, 0, 1, true)) else (if x6 = 3 then (rung_named.j1 k x6 (x6 == 3)) else (if x6 = 4 then (rung_named.j1 k x6 (x6 == 4)) else (if x6 = 5 then (rung_named.j1 k x6 (x6 == 5)) else (rung_named.j1 k x6 (x6 == 6))))))
def rung_named.j1 : Nat → Int → Bool → Option (Bool × Int × Int × Bool)
  | 0, _, _ => none
  | k + 1, x6, x12 => if x12 = true then (some (true, 1, 1, true)) else (if x6 = 7 then (rung_named.j2 k x6 (x6 == 7)) else (rung_named.j2 k x6 (x6 == 8)))
def rung_named.j2 : Nat → Int → Bool → Option (Bool × Int × Int × Bool)
  | 0, _, _ => none
  | k + 1, x6, x17 => if x17 = true then (some (false, 2, 1, true)) else (if x6 = 9 then (some (false, 1, 1, true)) else (some (false, 0, 0, false)))
end
def rung_named.f (k : Nat) (a0 : Int) : Option (Bool × Int × Int × Bool) := if a0 = 0 then (rung_named.j0 k a0 (a0 == 0)) else (rung_named.j0 k a0 (a0 == 1))
theorem rung_named.mono_l : ∀ k, (∀ y0 y1, LeO (rung_named.j0 k y0 y1) (rung_named.j0 (k + 1) y0 y1)) ∧ (∀ y0 y1, LeO (rung_named.j1 k y0 y1) (rung_named.j1 (k + 1) y0 y1)) ∧ (∀ y0 y1, LeO (rung_named.j2 k y0 y1) (rung_named.j2 (k + 1) y0 y1))
  | 0 => ⟨fun _ _ r h => by simp [rung_named.j0] at h, fun _ _ r h => by simp [rung_named.j1] at h, fun _ _ r h => by simp [rung_named.j2] at h⟩
  | k + 1 => by
    obtain ⟨ih0, ih1, ih2⟩ := rung_named.mono_l k
    refine ⟨?_, ?_, ?_⟩
    · intro y0 y1
      unfold rung_named.j0
      repeat' first
      | (with_reducible exact ih0 _ _)
      | (with_reducible exact ih1 _ _)
      | (with_reducible exact ih2 _ _)
      | (with_reducible exact LeO.refl _)
      | (with_reducible exact LeO.none _)
      | (with_reducible refine LeO.ite ?_ ?_)
      | (with_reducible refine LeO.bind ?_ (fun _ => ?_))
      | exact ih0 _ _
      | exact ih1 _ _
      | exact ih2 _ _
      | exact LeO.none _
      | refine LeO.ite ?_ ?_
      | refine LeO.bind ?_ (fun _ => ?_)
    · intro y0 y1
      unfold rung_named.j1
      repeat' first
      | (with_reducible exact ih0 _ _)
      | (with_reducible exact ih1 _ _)
      | (with_reducible exact ih2 _ _)
      | (with_reducible exact LeO.refl _)
      | (with_reducible exact LeO.none _)
      | (with_reducible refine LeO.ite ?_ ?_)
      | (with_reducible refine LeO.bind ?_ (fun _ => ?_))
      | exact ih0 _ _
      | exact ih1 _ _
      | exact ih2 _ _
      | exact LeO.none _
      | refine LeO.ite ?_ ?_
      | refine LeO.bind ?_ (fun _ => ?_)
    intro y0 y1
    unfold rung_named.j2
    repeat' first
    | (with_reducible exact ih0 _ _)
    | (with_reducible exact ih1 _ _)
    | (with_reducible exact ih2 _ _)
    | (with_reducible exact LeO.refl _)
    | (with_reducible exact LeO.none _)
    | (with_reducible refine LeO.ite ?_ ?_)
    | (with_reducible refine LeO.bind ?_ (fun _ => ?_))
    | exact ih0 _ _
    | exact ih1 _ _
    | exact ih2 _ _
    | exact LeO.none _
    | refine LeO.ite ?_ ?_
    | refine LeO.bind ?_ (fun _ => ?_)
theorem rung_named.mono : ∀ a0 k, LeO (rung_named.f k a0) (rung_named.f (k + 1) a0) := by
  intro a0 k
  obtain ⟨ih0, ih1, ih2⟩ := rung_named.mono_l k
  unfold rung_named.f
  repeat' first
      | (with_reducible exact ih0 _ _)
      | (with_reducible exact ih1 _ _)
      | (with_reducible exact ih2 _ _)
      | (with_reducible exact LeO.refl _)
      | (with_reducible exact LeO.none _)
      | (with_reducible refine LeO.ite ?_ ?_)
      | (with_reducible refine LeO.bind ?_ (fun _ => ?_))
      | exact ih0 _ _
      | exact ih1 _ _
      | exact ih2 _ _
      | exact LeO.none _
      | refine LeO.ite ?_ ?_
      | refine LeO.bind ?_ (fun _ => ?_)
set_option maxHeartbeats 8000000 in
set_option maxRecDepth 100000 in
theorem rung_named.calls (k : Nat) (a0 : Int) (r1 : Bool) (r2 : Int) (r3 : Int) (r4 : Bool) (w : World) (h : rung_named.f k a0 = some (r1, r2, r3, r4)) :
    Calls Tryd.prog 121 #[.int .i64 a0] w fun e w' => e = .returned (.tuple #[.bool r1, .int .i64 r2, .int .i64 r3, .bool r4]) ∧ Drawn0 w w' := by
  have H : (if a0 = 0 then (rung_named.j0 k a0 (a0 == 0)) else (rung_named.j0 k a0 (a0 == 1))) = some (r1, r2, r3, r4) := h
  clear h
  have HC2 := Aside0.mk H
  clear H
  go_enter Tryd.func121, Tryd.ntmps121
  go_upto_if 7 with (fail)
  go_cut [7] (fun v7 wc => ∃ (kq : Nat) (x7_1 : Bool), v7 = .bool x7_1 ∧ Aside0 (rung_named.j0 kq a0 x7_1 = some (r1, r2, r3, r4)) ∧ Aside0 (kq ≤ k) ∧ Drawn0 w wc)
  case first =>
    have H := HC2.out
    clear HC2
    by_cases c3 : a0 = 0
    · rw [if_pos c3] at H
      obtain ⟨c3b0, c3b1⟩ := qe c3
      clear c3
      (first | rw [c3b0] | (simp only [i64_w, i32_w]; rw [c3b0]) | skip)
      have H' := Aside0.mk H
      clear H
      go_wp2
      go_meet
      case rel => exact ⟨_, ((a0 == 0)), qv, H', ql, by repeat (first | exact Drawn0.refl _ | apply Drawn0.step)⟩
    rw [if_neg c3] at H
    obtain ⟨c3b0, c3b1⟩ := qd c3
    (first | rw [c3b0] | (simp only [i64_w, i32_w]; rw [c3b0]) | skip)
    have H' := Aside0.mk H
    clear H
    go_wp2
    go_meet
    case rel => exact ⟨_, ((a0 == 1)), qv, H', ql, by repeat (first | exact Drawn0.refl _ | apply Drawn0.step)⟩
  clear HC2
  obtain ⟨kq, x7_1, rfl, HA, HJ1, ⟨mc1, rfl⟩⟩ := hcut
  cases kq with
  | zero => exact absurd HA.out (by simp [rung_named.j0])
  | succ kj1 =>
    have H := HA.out
    clear HA
    simp only [rung_named.j0] at H
    by_cases c4 : x7_1 = true
    · subst c4
      rw [if_pos rfl] at H
      simp only [Option.some.injEq, Prod.mk.injEq] at H
      obtain ⟨rfl, rfl, rfl, rfl⟩ := H
      go_wp2
      refine bodyPost_ret (results_list (rs := [.tmp 2, .tmp 3, .tmp 4, .tmp 5]) rfl (by simp) (.tmp (.tmp (.tmp (.tmp .nil))))) rfl ?_
      exact ⟨by first | rfl | (simp; done) | (simp [*]; done), by repeat (first | exact Drawn0.refl _ | apply Drawn0.step)⟩
    replace c4 := Bool.eq_false_iff.mpr c4
    subst c4
    rw [if_neg qf] at H
    by_cases c5 : a0 = 2
    · rw [if_pos c5] at H
      obtain ⟨c5b0, c5b1⟩ := qe c5
      clear c5
      simp only [Option.some.injEq, Prod.mk.injEq] at H
      obtain ⟨rfl, rfl, rfl, rfl⟩ := H
      go_wp2
      refine bodyPost_ret (results_list (rs := [.tmp 2, .tmp 3, .tmp 4, .tmp 5]) rfl (by simp) (.tmp (.tmp (.tmp (.tmp .nil))))) rfl ?_
      exact ⟨by first | rfl | (simp; done) | (simp [*]; done), by repeat (first | exact Drawn0.refl _ | apply Drawn0.step)⟩
    rw [if_neg c5] at H
    obtain ⟨c5b0, c5b1⟩ := qd c5
    have HC6 := Aside0.mk H
    clear H
    go_upto_if 12 with (fail)
    go_cut [12] (fun v12 wc => ∃ (kq : Nat) (x12_5 : Bool), v12 = .bool x12_5 ∧ Aside0 (rung_named.j1 kq a0 x12_5 = some (r1, r2, r3, r4)) ∧ Aside0 (kq ≤ kj1) ∧ Drawn0 w wc)
    case first =>
      have H := HC6.out
      clear HC6
      by_cases c7 : a0 = 3
      · rw [if_pos c7] at H
        obtain ⟨c7b0, c7b1⟩ := qe c7
        clear c7
        (first | rw [c7b0] | (simp only [i64_w, i32_w]; rw [c7b0]) | skip)
        have H' := Aside0.mk H
        clear H
        go_wp2
        go_meet
        case rel => exact ⟨_, ((a0 == 3)), qv, H', ⟨by have := HJ1.out; first | omega | exact Nat.le_refl _⟩, by repeat (first | exact Drawn0.refl _ | apply Drawn0.step)⟩
      rw [if_neg c7] at H
      obtain ⟨c7b0, c7b1⟩ := qd c7
      (first | rw [c7b0] | (simp only [i64_w, i32_w]; rw [c7b0]) | skip)
      by_cases c8 : a0 = 4
      · rw [if_pos c8] at H
        obtain ⟨c8b0, c8b1⟩ := qe c8
        clear c8
        have H' := Aside0.mk H
        clear H
        go_wp2
        go_meet
        case rel => exact ⟨_, ((a0 == 4)), qv, H', ⟨by have := HJ1.out; first | omega | exact Nat.le_refl _⟩, by repeat (first | exact Drawn0.refl _ | apply Drawn0.step)⟩
      rw [if_neg c8] at H
      obtain ⟨c8b0, c8b1⟩ := qd c8
      by_cases c9 : a0 = 5
      · rw [if_pos c9] at H
        obtain ⟨c9b0, c9b1⟩ := qe c9
        clear c9
        have H' := Aside0.mk H
        clear H
        go_wp2
        go_meet
        case rel => exact ⟨_, ((a0 == 5)), qv, H', ⟨by have := HJ1.out; first | omega | exact Nat.le_refl _⟩, by repeat (first | exact Drawn0.refl _ | apply Drawn0.step)⟩
      rw [if_neg c9] at H
      obtain ⟨c9b0, c9b1⟩ := qd c9
      have H' := Aside0.mk H
      clear H
      go_wp2
      go_meet
      case rel => exact ⟨_, ((a0 == 6)), qv, H', ⟨by have := HJ1.out; first | omega | exact Nat.le_refl _⟩, by repeat (first | exact Drawn0.refl _ | apply Drawn0.step)⟩
    clear HC6
    obtain ⟨kq, x12_5, rfl, HA, HJ5, ⟨mc5, rfl⟩⟩ := hcut
    cases kq with
    | zero => exact absurd HA.out (by simp [rung_named.j1])
    | succ kj5 =>
      have H := HA.out
      clear HA
      simp only [rung_named.j1] at H
      by_cases c10 : x12_5 = true
      · subst c10
        rw [if_pos rfl] at H
        simp only [Option.some.injEq, Prod.mk.injEq] at H
        obtain ⟨rfl, rfl, rfl, rfl⟩ := H
        go_wp2
        refine bodyPost_ret (results_list (rs := [.tmp 2, .tmp 3, .tmp 4, .tmp 5]) rfl (by simp) (.tmp (.tmp (.tmp (.tmp .nil))))) rfl ?_
        exact ⟨by first | rfl | (simp; done) | (simp [*]; done), by repeat (first | exact Drawn0.refl _ | apply Drawn0.step)⟩
      replace c10 := Bool.eq_false_iff.mpr c10
      subst c10
      rw [if_neg qf] at H
      have HC11 := Aside0.mk H
      clear H
      go_upto_if 17 with (fail)
      go_cut [17] (fun v17 wc => ∃ (kq : Nat) (x17_10 : Bool), v17 = .bool x17_10 ∧ Aside0 (rung_named.j2 kq a0 x17_10 = some (r1, r2, r3, r4)) ∧ Aside0 (kq ≤ kj5) ∧ Drawn0 w wc)
      case first =>
        have H := HC11.out
        clear HC11
        by_cases c12 : a0 = 7
        · rw [if_pos c12] at H
          obtain ⟨c12b0, c12b1⟩ := qe c12
          clear c12
          (first | rw [c12b0] | (simp only [i64_w, i32_w]; rw [c12b0]) | skip)
          have H' := Aside0.mk H
          clear H
          go_wp2
          go_meet
          case rel => exact ⟨_, ((a0 == 7)), qv, H', ⟨by have := HJ1.out; have := HJ5.out; first | omega | exact Nat.le_refl _⟩, by repeat (first | exact Drawn0.refl _ | apply Drawn0.step)⟩
        rw [if_neg c12] at H
        obtain ⟨c12b0, c12b1⟩ := qd c12
        (first | rw [c12b0] | (simp only [i64_w, i32_w]; rw [c12b0]) | skip)
        have H' := Aside0.mk H
        clear H
        go_wp2
        go_meet
        case rel => exact ⟨_, ((a0 == 8)), qv, H', ⟨by have := HJ1.out; have := HJ5.out; first | omega | exact Nat.le_refl _⟩, by repeat (first | exact Drawn0.refl _ | apply Drawn0.step)⟩
      clear HC11
      obtain ⟨kq, x17_10, rfl, HA, HJ10, ⟨mc10, rfl⟩⟩ := hcut
      cases kq with
      | zero => exact absurd HA.out (by simp [rung_named.j2])
      | succ kj10 =>
        have H := HA.out
        clear HA
        simp only [rung_named.j2] at H
        by_cases c13 : x17_10 = true
        · subst c13
          rw [if_pos rfl] at H
          simp only [Option.some.injEq, Prod.mk.injEq] at H
          obtain ⟨rfl, rfl, rfl, rfl⟩ := H
          go_wp2
          refine bodyPost_ret (results_list (rs := [.tmp 2, .tmp 3, .tmp 4, .tmp 5]) rfl (by simp) (.tmp (.tmp (.tmp (.tmp .nil))))) rfl ?_
          exact ⟨by first | rfl | (simp; done) | (simp [*]; done), by repeat (first | exact Drawn0.refl _ | apply Drawn0.step)⟩
        replace c13 := Bool.eq_false_iff.mpr c13
        subst c13
        rw [if_neg qf] at H
        by_cases c14 : a0 = 9
        · rw [if_pos c14] at H
          obtain ⟨c14b0, c14b1⟩ := qe c14
          clear c14
          simp only [Option.some.injEq, Prod.mk.injEq] at H
          obtain ⟨rfl, rfl, rfl, rfl⟩ := H
          go_wp2
          refine bodyPost_ret (results_list (rs := [.tmp 2, .tmp 3, .tmp 4, .tmp 5]) rfl (by simp) (.tmp (.tmp (.tmp (.tmp .nil))))) rfl ?_
          exact ⟨by first | rfl | (simp; done) | (simp [*]; done), by repeat (first | exact Drawn0.refl _ | apply Drawn0.step)⟩
        rw [if_neg c14] at H
        obtain ⟨c14b0, c14b1⟩ := qd c14
        simp only [Option.some.injEq, Prod.mk.injEq] at H
        obtain ⟨rfl, rfl, rfl, rfl⟩ := H
        go_wp2
        refine bodyPost_ret (results_list (rs := [.tmp 2, .tmp 3, .tmp 4, .tmp 5]) rfl (by simp) (.tmp (.tmp (.tmp (.tmp .nil))))) rfl ?_
        exact ⟨by first | rfl | (simp; done) | (simp [*]; done), by repeat (first | exact Drawn0.refl _ | apply Drawn0.step)⟩
end Go.Proofs.YtiaccdaeomaogaaDoor.F
