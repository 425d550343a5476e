/- Texts of one claim, slimmed and merged by slim.py. -/
import Derived.Deep.Slices
import Derived.Deep.Grids
import Derived.WalkKit
import Derived.ProofKit
import Derived.OpenShut
import Derived.ShutString
import Derived.ChangeOld
import Derived.Below
import Derived.SizedLaws
import Derived.Test.YtiaccdaeomaogaaDoorR4
import Derived.Test.YtiaccdaeomaogaaDoorR5
import Derived.Test.YtiaccdaeomaogaaDoorR13
namespace Go.Proofs.YtiaccdaeomaogaaDoor.F
open Go.RowKit Go.Proofs.YtiaccdaeomaogaaDoorW.PrintWords Go.Proofs.YtiaccdaeomaogaaDoorW.PrintLast Go.Proofs.YtiaccdaeomaogaaDoorW.PrintMore Go.Deep
set_option linter.unusedVariables false
set_option linter.unusedSimpArgs false
section
variable {H : Type} {enc : TypeId × Value → H} {P : Program} {w : World} {base : Nat} {spare : Nat → Bool} {held : Bool}
theorem slice_cells {α : Type} {d : Kd α} {Ok : α → Prop} (z : α) {t e : TypeId} {fuel : Nat} {cs : List Value} {x : DataW H × List MemPlace} (ht : P.underlying t = some (.slice e)) (hc : P.cellsOf e = d.sz)
    (elem : ∀ n, n < fuel → ∀ cs x, DataW.trod enc P w base spare held n e cs = some x → ∃ y, d.K w y cs ∧ Ok y) (h : DataW.trod enc P w base spare held fuel t cs = some x) :
    ∃ (A : Option Addr) (c : Nat) (l : List α), cs = [.slice A l.length c] ∧ (l.length ≤ c ∧ l.length ≤ maxLen) ∧ d.C w A l.length l ∧ ∀ y ∈ l, Ok y := by
  rcases DataW.trod_slice ht h with ⟨hcs, _⟩ | ⟨ad, len, cap, elems, rest, n, hf, hcs, _, hb, hl, hm, hlen, hel, _⟩
  · exact ⟨none, 0, [], hcs, ⟨Nat.le_refl _, by simp⟩, ⟨rfl, by simp, fun h => absurd h (Nat.lt_irrefl 0)⟩, fun y hy => nomatch hy⟩
  · have hch : ∀ i, i < len → ∃ y : α, (∃ cs', w.cells? base (ad.add (i * d.sz)) d.sz = some cs' ∧ d.K w y cs') ∧ Ok y := by
      intro i hlt
      have h1 := hel i hlt
      rw [List.getElem?_eq_getElem (by omega)] at h1
      obtain ⟨cs', h2, h3⟩ := Option.bind_eq_some_iff.mp h1
      rw [hc] at h2
      obtain ⟨y, h4, h5⟩ := elem n (by omega) _ _ h3
      exact ⟨y, ⟨cs', h2, h4⟩, h5⟩
    haveI : Inhabited α := ⟨z⟩
    obtain ⟨Y, hY⟩ := choose_lt hch
    have hlY : ((List.range len).map Y).length = len := by simp
    refine ⟨some ad, cap, (List.range len).map Y, by rw [hlY]; exact hcs, ⟨by rw [hlY]; exact hl, by rw [hlY]; omega⟩, ⟨rfl, by rw [hlY]; unfold maxLen at hm; omega, fun _ => ⟨ad, rfl, fun j p hp => ?_⟩⟩, fun y hy => ?_⟩
    · rw [List.getElem?_map] at hp
      have hj : j < len := by
        by_cases hj : j < len
        · exact hj
        · rw [List.getElem?_eq_none (by simp; omega)] at hp; simp at hp
      rw [List.getElem?_range hj] at hp
      simp at hp
      subst hp
      obtain ⟨⟨cs', h1, h2⟩, _⟩ := hY j hj
      refine ⟨cs', d.K_len h2, h2, fun i u hu => ?_⟩
      have h3 := (World.cells?_some h1).2.2
      have hi : i < d.sz := by have := (List.getElem?_eq_some_iff.1 hu).1; rw [d.K_len h2] at this; exact this
      have h4 := h3 i hi
      rw [Deep.add_add] at h4
      exact h4.trans hu
    · obtain ⟨i, hi, rfl⟩ := List.mem_map.mp hy
      exact (hY i (List.mem_range.mp hi)).2
theorem wf_I64 {a : Int} (h : (Lit.int .i64 a).wf = true) : I64 a := by
  simp only [Lit.wf, Bool.and_eq_true, decide_eq_true_eq] at h
  have h1 : IntKind.min .i64 = -9223372036854775808 := by decide
  have h2 : IntKind.max .i64 = 9223372036854775807 := by decide
  unfold I64; omega
theorem len3 {α : Type} {l : List α} (h : l.length = 3) : ∃ a b c, l = [a, b, c] := match l, h with | [a, b, c], _ => ⟨a, b, c, rfl⟩
theorem len4 {α : Type} {l : List α} (h : l.length = 4) : ∃ a b c d, l = [a, b, c, d] := match l, h with | [a, b, c, d], _ => ⟨a, b, c, d, rfl⟩
theorem len6 {α : Type} {l : List α} (h : l.length = 6) : ∃ a b c d e f, l = [a, b, c, d, e, f] := match l, h with | [a, b, c, d, e, f], _ => ⟨a, b, c, d, e, f, rfl⟩
end
section
variable {H : Type} {enc : TypeId × Value → H} {w : World} {base : Nat} {spare : Nat → Bool} {held : Bool}
theorem cells_int : Tryd.prog.cellsOf 3 = 1 := by kernel_rfl
theorem cells_str : Tryd.prog.cellsOf 9 = 1 := by kernel_rfl
theorem cells_sexpr : Tryd.prog.cellsOf 32 = 1 := by kernel_rfl
theorem cells_sins : Tryd.prog.cellsOf 41 = 1 := by kernel_rfl
theorem cells_expr : Tryd.prog.cellsOf 34 = 4 := by kernel_rfl
theorem cells_ins : Tryd.prog.cellsOf 40 = 6 := by kernel_rfl
theorem cells_rung : Tryd.prog.cellsOf 43 = 3 := by kernel_rfl
theorem expr_item : ∀ (fuel : Nat) (cs : List Value) (x : DataW H × List MemPlace), DataW.trod enc Tryd.prog w base spare held fuel 34 cs = some x → ∃ y : S34, k34.K w y cs ∧ OkI y := by
  intro fuel
  induction fuel using Nat.strongRecOn with
  | _ fuel ih =>
  intro cs x h
  obtain ⟨xs, n, hn, _, hl, hx, hf⟩ := DataW.trod_struct Tryd.underlying34 h
  rw [cells_expr] at hl
  have hx4 : xs.length = 4 := hx
  have h0 : DataW.trod enc Tryd.prog w base spare held n 3 ((cs.drop 0).take (Tryd.prog.cellsOf 3)) = xs[0]? := hf 0 _ rfl
  have h1 : DataW.trod enc Tryd.prog w base spare held n 3 ((cs.drop 1).take (Tryd.prog.cellsOf 3)) = xs[1]? := hf 1 _ rfl
  have h2 : DataW.trod enc Tryd.prog w base spare held n 9 ((cs.drop 2).take (Tryd.prog.cellsOf 9)) = xs[2]? := hf 2 _ rfl
  have h3 : DataW.trod enc Tryd.prog w base spare held n 32 ((cs.drop 3).take (Tryd.prog.cellsOf 32)) = xs[3]? := hf 3 _ rfl
  rw [cells_int] at h0 h1
  rw [cells_str] at h2
  rw [cells_sexpr] at h3
  rw [List.getElem?_eq_getElem (by omega)] at h0 h1 h2 h3
  obtain ⟨a0, e0, _, w0⟩ := DataW.trod_int Tryd.underlying3 h0
  obtain ⟨a1, e1, _, w1⟩ := DataW.trod_int Tryd.underlying3 h1
  obtain ⟨a2, e2, _, w2⟩ := DataW.trod_string Tryd.underlying9 h2
  obtain ⟨A3, c3, l3, e3, lc, hC, hO⟩ := slice_cells (d := k34) (Ok := OkI) z34 Tryd.underlying32 (by rw [cells_expr]; rfl) (fun m hm => ih m (by omega)) h3
  obtain ⟨d0, d1, d2, d3, rfl⟩ := len4 hl
  simp at e0 e1 e2 e3
  rw [e0, e1, e2, e3]
  exact ⟨⟨a0, a1, a2, l3⟩, k34_mk w ⟨a0, a1, a2, l3⟩ lc.1 hC, OkI.mk _ (wf_I64 w1) hO⟩
theorem ins_item (fuel : Nat) (cs : List Value) (x : DataW H × List MemPlace) (h : DataW.trod enc Tryd.prog w base spare held fuel 40 cs = some x) : ∃ y : S40, k40.K w y cs ∧ OkI y.f2 := by
  obtain ⟨xs, n, hn, _, hl, hx, hf⟩ := DataW.trod_struct Tryd.underlying40 h
  rw [cells_ins] at hl
  have hx4 : xs.length = 3 := hx
  have h0 : DataW.trod enc Tryd.prog w base spare held n 3 ((cs.drop 0).take (Tryd.prog.cellsOf 3)) = xs[0]? := hf 0 _ rfl
  have h1 : DataW.trod enc Tryd.prog w base spare held n 9 ((cs.drop 1).take (Tryd.prog.cellsOf 9)) = xs[1]? := hf 1 _ rfl
  have h2 : DataW.trod enc Tryd.prog w base spare held n 34 ((cs.drop 2).take (Tryd.prog.cellsOf 34)) = xs[2]? := hf 2 _ rfl
  rw [cells_int] at h0
  rw [cells_str] at h1
  rw [cells_expr] at h2
  rw [List.getElem?_eq_getElem (by omega)] at h0 h1 h2
  obtain ⟨a0, e0, _, w0⟩ := DataW.trod_int Tryd.underlying3 h0
  obtain ⟨a1, e1, _, w1⟩ := DataW.trod_string Tryd.underlying9 h1
  obtain ⟨y2, g2, o2⟩ := expr_item _ _ _ h2
  obtain ⟨A3, c3, e2, l3, g3⟩ := k34_open g2
  obtain ⟨d0, d1, d2, d3, d4, d5, rfl⟩ := len6 hl
  simp at e0 e1 e2
  obtain ⟨e20, e21, e22, e23⟩ := e2
  rw [e0, e1, e20, e21, e22, e23]
  exact ⟨⟨a0, a1, y2⟩, k40_mk w ⟨a0, a1, y2⟩ l3 g3, o2⟩
def InR (y : S43) : Prop := (∀ i ∈ y.f2, OkI i.f2) ∧ y.f2.length ≤ maxLen
theorem rung_item (fuel : Nat) (cs : List Value) (x : DataW H × List MemPlace) (h : DataW.trod enc Tryd.prog w base spare held fuel 43 cs = some x) : ∃ y : S43, k43.K w y cs ∧ InR y := by
  obtain ⟨xs, n, hn, _, hl, hx, hf⟩ := DataW.trod_struct Tryd.underlying43 h
  rw [cells_rung] at hl
  have hx4 : xs.length = 3 := hx
  have h0 : DataW.trod enc Tryd.prog w base spare held n 3 ((cs.drop 0).take (Tryd.prog.cellsOf 3)) = xs[0]? := hf 0 _ rfl
  have h1 : DataW.trod enc Tryd.prog w base spare held n 9 ((cs.drop 1).take (Tryd.prog.cellsOf 9)) = xs[1]? := hf 1 _ rfl
  have h2 : DataW.trod enc Tryd.prog w base spare held n 41 ((cs.drop 2).take (Tryd.prog.cellsOf 41)) = xs[2]? := hf 2 _ rfl
  rw [cells_int] at h0
  rw [cells_str] at h1
  rw [cells_sins] at h2
  rw [List.getElem?_eq_getElem (by omega)] at h0 h1 h2
  obtain ⟨a0, e0, _, w0⟩ := DataW.trod_int Tryd.underlying3 h0
  obtain ⟨a1, e1, _, w1⟩ := DataW.trod_string Tryd.underlying9 h1
  obtain ⟨A2, c2, l2, e2, lc, hC, hO⟩ := slice_cells (d := k40) (Ok := fun i => OkI i.f2) z40 Tryd.underlying41 (by rw [cells_ins]; rfl) (fun m _ => ins_item m) h2
  obtain ⟨d0, d1, d2, rfl⟩ := len3 hl
  simp at e0 e1 e2
  rw [e0, e1, e2]
  exact ⟨⟨a0, a1, l2⟩, k43_mk w ⟨a0, a1, l2⟩ lc.1 hC, hO, lc.2⟩
theorem str_item (fuel : Nat) (cs : List Value) (x : DataW H × List MemPlace) (h : DataW.trod enc Tryd.prog w base spare held fuel 9 cs = some x) : ∃ y : ByteArray, Kd.string.K w y cs ∧ y.size ≤ maxLen := by
  obtain ⟨a, e, _, wf⟩ := DataW.trod_string Tryd.underlying9 h
  exact ⟨a, e, wf⟩
theorem slice_val {a : Option Addr} {len cap : Nat} {α : Type} {d : Kd α} {Ok : α → Prop} (h : ∃ (A : Option Addr) (c : Nat) (l : List α), (Value.cells (.slice a len cap)).toList = [.slice A l.length c] ∧ (l.length ≤ c ∧ l.length ≤ maxLen) ∧ d.C w A l.length l ∧ ∀ y ∈ l, Ok y) :
    ∃ l : List α, l.length = len ∧ (l.length ≤ cap ∧ l.length ≤ maxLen) ∧ d.C w a l.length l ∧ ∀ y ∈ l, Ok y := by
  obtain ⟨A, c, l, e, h1, h2, h3⟩ := h
  simp [Value.cells] at e
  obtain ⟨rfl, rfl, rfl⟩ := e
  exact ⟨l, rfl, h1, h2, h3⟩
theorem rungs_open {fuel : Nat} {a : Option Addr} {len cap : Nat} {x : DataW H × List MemPlace} (h : DataW.trod enc Tryd.prog w base spare held fuel 22 (Value.cells (.slice a len cap)).toList = some x) :
    ∃ l : List S43, l.length = len ∧ (l.length ≤ cap ∧ l.length ≤ maxLen) ∧ Kd.C k43 w a l.length l ∧ ∀ y ∈ l, InR y :=
  slice_val (slice_cells z43 Tryd.underlying22 (by rw [cells_rung]; rfl) (fun m _ => rung_item m) h)
theorem strs_open {fuel : Nat} {a : Option Addr} {len cap : Nat} {x : DataW H × List MemPlace} (h : DataW.trod enc Tryd.prog w base spare held fuel 23 (Value.cells (.slice a len cap)).toList = some x) :
    ∃ l : List ByteArray, l.length = len ∧ (l.length ≤ cap ∧ l.length ≤ maxLen) ∧ Kd.C Kd.string w a l.length l ∧ ∀ y ∈ l, y.size ≤ maxLen :=
  slice_val (slice_cells ByteArray.empty Tryd.underlying23 (by rw [cells_str]; rfl) (fun m _ => str_item m) h)
end
end Go.Proofs.YtiaccdaeomaogaaDoor.F
namespace Go.Proofs.YtiaccdaeomaogaaDoor.F
open Go.RowKit Go.Proofs.YtiaccdaeomaogaaDoorW.PrintWords Go.Proofs.YtiaccdaeomaogaaDoorW.PrintLast Go.Proofs.YtiaccdaeomaogaaDoorW.PrintMore
attribute [local go_sem] max2_int min2_int max_two min_two max_three min_three max_four min_four   -- for this text's walks alone
set_option linter.unusedVariables false
set_option linter.unusedSimpArgs false
mutual
def malthouseref09_Light.l0 : Nat → List (S43) → Int → Option (Bool)
  | 0, _, _ => none
  | k + 1, x0, x3 => if x3 < (x0.length : Int) then (if 0 ≤ x3 then (if (((rd_T43 x0 x3).f2).length : Int) > 50 then (malthouseref09_Light.j1 k x0 x3 true) else (malthouseref09_Light.j1 k x0 x3 (decide ((((rd_T43 x0 x3).f1).size : Int) > 200)))) else (none)) else (some true)
def malthouseref09_Light.j1 : Nat → List (S43) → Int → Bool → Option (Bool)
  | 0, _, _, _ => none
  | k + 1, x0, x3, x29 => if x29 = true then (some false) else (malthouseref09_Light.l1 k x0 x3 0)
def malthouseref09_Light.l1 : Nat → List (S43) → Int → Int → Option (Bool)
  | 0, _, _, _ => none
  | k + 1, x0, x3, x4 => if 0 ≤ x3 then (if x3 < (x0.length : Int) then (if x4 < (((rd_T43 x0 x3).f2).length : Int) then (if 0 ≤ x4 then (if (((rd_T40 ((rd_T43 x0 x3).f2) x4).f1).size : Int) > 200 then (some false) else ((malthouseref02_Weight.f k ((rd_T40 ((rd_T43 x0 x3).f2) x4).f2.f0) ((rd_T40 ((rd_T43 x0 x3).f2) x4).f2.f1) ((rd_T40 ((rd_T43 x0 x3).f2) x4).f2.f2) ((rd_T40 ((rd_T43 x0 x3).f2) x4).f2.f3) 200).bind fun t108 => (if t108 = 0 then (some false) else (malthouseref09_Light.l1 k x0 x3 (wrap64 (x4 + 1)))))) else (none)) else (malthouseref09_Light.l0 k x0 (wrap64 (x3 + 1)))) else (none)) else (none)
end
def malthouseref09_Light.f (k : Nat) (l0 : List (S43)) : Option (Bool) := if (l0.length : Int) > 50 then (some false) else (malthouseref09_Light.l0 k l0 0)
set_option maxHeartbeats 8000000 in
set_option maxRecDepth 100000 in
theorem malthouseref09_Light.calls (k : Nat) (A0 : Option Addr) (c0 : Nat) (l0 : List (S43)) (r : Bool) (w : World) (hr0 : Kd.C k43 w A0 l0.length l0) (hc0 : l0.length ≤ c0) (h : malthouseref09_Light.f k l0 = some r) :
  Calls Tryd.prog 20 #[.slice A0 l0.length c0] w fun e w' => e = .returned (.bool r) ∧ Below w.heap.size w w' := by
 have hu34 := Tryd.underlying34
 have HR0 := Aside0.mk hr0
 have HC0 := Aside0.mk hc0
 clear hr0 hc0
 have HB := Aside0.mk (Below.refl w.heap.size w)
 have H : (if (l0.length : Int) > 50 then (some false) else (malthouseref09_Light.l0 k l0 0)) = some r := h
 clear h
 by_cases c2 : (l0.length : Int) > 50
 ·rw [if_pos c2] at H
  have c2b0 : decide (50 < (l0.length : Int)) = true := decide_eq_true c2
  have c2b1 : decide (50 < l0.length) = true := decide_eq_true (by omega)
  clear c2
  obtain rfl := Option.some.inj H
  go_enter Tryd.func20, Tryd.ntmps20
  go_wp2
  go_ret
  exact qr
 rw [if_neg c2] at H
 have c2b0 : decide (50 < (l0.length : Int)) = false := decide_eq_false c2
 have c2b1 : decide (50 < l0.length) = false := decide_eq_false (by omega)
 clear c2
 have H' := Aside0.mk H
 clear H
 go_enter Tryd.func20, Tryd.ntmps20
 go_wp2
 go_loopg [3] k (fun kq v3 w' => ∃ (x3_1 : Int), v3 = .int .i64 x3_1 ∧ Aside0 (malthouseref09_Light.l0 kq l0 x3_1 = some r) ∧ Aside0 (kq ≤ k) ∧ Aside0 (Below w.heap.size w w'))
 case atStart => exact ⟨(0), qv, H', ⟨Nat.le_refl _⟩, qB⟩
 case round =>
  clear H'
  obtain ⟨x3_1, rfl, HA, HK1, HB⟩ := hrel
  cases gk with
  | zero => exact absurd HA.out (by simp [malthouseref09_Light.l0])
  | succ k1 =>
   have H := HA.out
   clear HA
   simp only [malthouseref09_Light.l0] at H
   by_cases c3 : x3_1 < (l0.length : Int)
   ·rw [if_pos c3] at H
    have c3b0 : decide (x3_1 < (l0.length : Int)) = true := decide_eq_true c3
    clear c3
    have HC4 := Aside0.mk H
    clear H
    go_upto_region 6 with (fail)
    go_cut [29] (fun v29 wc => ∃ (kq : Nat) (x29_3 : Bool), v29 = .bool x29_3 ∧ Aside0 (malthouseref09_Light.j1 kq l0 x3_1 x29_3 = some r) ∧ Aside0 (kq ≤ k1) ∧ Aside0 (Below w.heap.size w wc))
    case first =>
     have H := HC4.out
     clear HC4
     by_cases c5 : 0 ≤ x3_1
     ·rw [if_pos c5] at H
      have c5b0 : decide (0 ≤ x3_1) = true := decide_eq_true c5
      clear c5
      (first | rw [c5b0] | (simp only [i64_w, i32_w]; rw [c5b0]) | skip)
      by_cases c6 : (((rd_T43 l0 x3_1).f2).length : Int) > 50
      ·rw [if_pos c6] at H
       have c6b0 : decide (50 < (((rd_T43 l0 x3_1).f2).length : Int)) = true := decide_eq_true c6
       have c6b1 : decide (50 < ((rd_T43 l0 x3_1).f2).length) = true := decide_eq_true (by omega)
       clear c6
       have H' := Aside0.mk H
       clear H
       have p101 : 0 ≤ (x3_1 : Int) := qa
       have q101 : x3_1 < (l0.length : Int) := qa
       obtain ⟨ad101, A101_2, c101_2, e101, hx101_0, hx101_1, hx101_2, hl101_2, hi101_2⟩ := at_T43 HR0.out x3_1 p101 q101
       cases e101
       replace hx101_0 := qc HB.out hx101_0
       replace hx101_1 := qc HB.out hx101_1
       replace hx101_2 := qc HB.out hx101_2
       have HR101_2 := Aside0.mk hi101_2
       have HC101_2 := Aside0.mk hl101_2
       clear hi101_2 hl101_2
       replace p101 := eq_true p101
       replace q101 := eq_true q101
       go_wp2
       go_meet
       case rel => exact ⟨_, (true), qv, H', ⟨by have := HK1.out; first | omega | exact Nat.le_refl _⟩, qB⟩
      rw [if_neg c6] at H
      have c6b0 : decide (50 < (((rd_T43 l0 x3_1).f2).length : Int)) = false := decide_eq_false c6
      have c6b1 : decide (50 < ((rd_T43 l0 x3_1).f2).length) = false := decide_eq_false (by omega)
      clear c6
      have H' := Aside0.mk H
      clear H
      have p101 : 0 ≤ (x3_1 : Int) := qa
      have q101 : x3_1 < (l0.length : Int) := qa
      obtain ⟨ad101, A101_2, c101_2, e101, hx101_0, hx101_1, hx101_2, hl101_2, hi101_2⟩ := at_T43 HR0.out x3_1 p101 q101
      cases e101
      replace hx101_0 := qc HB.out hx101_0
      replace hx101_1 := qc HB.out hx101_1
      replace hx101_2 := qc HB.out hx101_2
      have HR101_2 := Aside0.mk hi101_2
      have HC101_2 := Aside0.mk hl101_2
      clear hi101_2 hl101_2
      replace p101 := eq_true p101
      replace q101 := eq_true q101
      have p102 : 0 ≤ (x3_1 : Int) := qa
      have q102 : x3_1 < (l0.length : Int) := qa
      obtain ⟨ad102, A102_2, c102_2, e102, hx102_0, hx102_1, hx102_2, hl102_2, hi102_2⟩ := at_T43 HR0.out x3_1 p102 q102
      obtain rfl : ad101 = ad102 := (by injection e102)
      replace hx102_0 := qc HB.out hx102_0
      replace hx102_1 := qc HB.out hx102_1
      replace hx102_2 := qc HB.out hx102_2
      have HR102_2 := Aside0.mk hi102_2
      have HC102_2 := Aside0.mk hl102_2
      clear hi102_2 hl102_2
      replace p102 := eq_true p102
      replace q102 := eq_true q102
      have ea_ := Option.some.inj (hx101_2.symm.trans hx102_2)
      injection ea_ with ea_ en_ ec_
      subst ea_
      subst ec_
      clear en_
      go_wp2
      go_meet
      case rel => exact ⟨_, (decide ((((rd_T43 l0 x3_1).f1).size : Int) > 200)), qv, H', ⟨by have := HK1.out; first | omega | exact Nat.le_refl _⟩, qB⟩
     rw [if_neg c5] at H
     exact absurd H (by simp)
    clear HC4
    obtain ⟨kq, x29_3, rfl, HA, HJ3, HB⟩ := hcut
    cases kq with
    | zero => exact absurd HA.out (by simp [malthouseref09_Light.j1])
    | succ kj3 =>
     have H := HA.out
     clear HA
     simp only [malthouseref09_Light.j1] at H
     by_cases c7 : x29_3 = true
     ·subst c7
      rw [if_pos rfl] at H
      obtain rfl := Option.some.inj H
      go_wp2
      go_ret
      exact qr
     replace c7 := Bool.eq_false_iff.mpr c7
     subst c7
     rw [if_neg qf] at H
     have H' := Aside0.mk H
     clear H
     go_wp2
     go_loopg [4] kj3 (fun kq v4 w' => ∃ (x4_3 : Int), v4 = .int .i64 x4_3 ∧ Aside0 (malthouseref09_Light.l1 kq l0 x3_1 x4_3 = some r) ∧ Aside0 (kq ≤ kj3) ∧ Aside0 (Below w.heap.size w w'))
     case atStart => exact ⟨(0), qv, H', ⟨Nat.le_refl _⟩, qB⟩
     case round =>
      clear H'
      obtain ⟨x4_3, rfl, HA, HK3, HB⟩ := hrel
      cases gk with
      | zero => exact absurd HA.out (by simp [malthouseref09_Light.l1])
      | succ k3 =>
       have H := HA.out
       clear HA
       simp only [malthouseref09_Light.l1] at H
       by_cases c8 : 0 ≤ x3_1
       ·rw [if_pos c8] at H
        have c8b0 : decide (0 ≤ x3_1) = true := decide_eq_true c8
        clear c8
        by_cases c9 : x3_1 < (l0.length : Int)
        ·rw [if_pos c9] at H
         have c9b0 : decide (x3_1 < (l0.length : Int)) = true := decide_eq_true c9
         clear c9
         by_cases c10 : x4_3 < (((rd_T43 l0 x3_1).f2).length : Int)
         ·rw [if_pos c10] at H
          have c10b0 : decide (x4_3 < (((rd_T43 l0 x3_1).f2).length : Int)) = true := decide_eq_true c10
          clear c10
          by_cases c11 : 0 ≤ x4_3
          ·rw [if_pos c11] at H
           have c11b0 : decide (0 ≤ x4_3) = true := decide_eq_true c11
           clear c11
           by_cases c12 : (((rd_T40 ((rd_T43 l0 x3_1).f2) x4_3).f1).size : Int) > 200
           ·rw [if_pos c12] at H
            have c12b0 : decide (200 < (((rd_T40 ((rd_T43 l0 x3_1).f2) x4_3).f1).size : Int)) = true := decide_eq_true c12
            have c12b1 : decide (200 < ((rd_T40 ((rd_T43 l0 x3_1).f2) x4_3).f1).size) = true := decide_eq_true (by omega)
            clear c12
            obtain rfl := Option.some.inj H
            have p103 : 0 ≤ (x3_1 : Int) := qa
            have q103 : x3_1 < (l0.length : Int) := qa
            obtain ⟨ad103, A103_2, c103_2, e103, hx103_0, hx103_1, hx103_2, hl103_2, hi103_2⟩ := at_T43 HR0.out x3_1 p103 q103
            cases e103
            replace hx103_0 := qc HB.out hx103_0
            replace hx103_1 := qc HB.out hx103_1
            replace hx103_2 := qc HB.out hx103_2
            have HR103_2 := Aside0.mk hi103_2
            have HC103_2 := Aside0.mk hl103_2
            clear hi103_2 hl103_2
            replace p103 := eq_true p103
            replace q103 := eq_true q103
            have p104 : 0 ≤ (x3_1 : Int) := qa
            have q104 : x3_1 < (l0.length : Int) := qa
            obtain ⟨ad104, A104_2, c104_2, e104, hx104_0, hx104_1, hx104_2, hl104_2, hi104_2⟩ := at_T43 HR0.out x3_1 p104 q104
            obtain rfl : ad103 = ad104 := (by injection e104)
            replace hx104_0 := qc HB.out hx104_0
            replace hx104_1 := qc HB.out hx104_1
            replace hx104_2 := qc HB.out hx104_2
            have HR104_2 := Aside0.mk hi104_2
            have HC104_2 := Aside0.mk hl104_2
            clear hi104_2 hl104_2
            replace p104 := eq_true p104
            replace q104 := eq_true q104
            have ea_ := Option.some.inj (hx103_2.symm.trans hx104_2)
            injection ea_ with ea_ en_ ec_
            subst ea_
            subst ec_
            clear en_
            have p105 : 0 ≤ (x4_3 : Int) := qa
            have q105 : x4_3 < (((rd_T43 l0 x3_1).f2).length : Int) := qa
            obtain ⟨ad105, A105_5, c105_5, e105, hx105_0, hx105_1, hx105_2, hx105_3, hx105_4, hx105_5, hl105_5, hi105_5⟩ := at_T40 HR104_2.out x4_3 p105 q105
            cases e105
            replace hx105_0 := qc HB.out hx105_0
            replace hx105_1 := qc HB.out hx105_1
            replace hx105_2 := qc HB.out hx105_2
            replace hx105_3 := qc HB.out hx105_3
            replace hx105_4 := qc HB.out hx105_4
            replace hx105_5 := qc HB.out hx105_5
            have HR105_5 := Aside0.mk hi105_5
            have HC105_5 := Aside0.mk hl105_5
            clear hi105_5 hl105_5
            replace p105 := eq_true p105
            replace q105 := eq_true q105
            go_wp2
            go_ret
            exact qr
           rw [if_neg c12] at H
           have c12b0 : decide (200 < (((rd_T40 ((rd_T43 l0 x3_1).f2) x4_3).f1).size : Int)) = false := decide_eq_false c12
           have c12b1 : decide (200 < ((rd_T40 ((rd_T43 l0 x3_1).f2) x4_3).f1).size) = false := decide_eq_false (by omega)
           clear c12
           replace H := qi H
           obtain ⟨t108, A13, H⟩ := H
           by_cases c14 : t108 = 0
           ·rw [if_pos c14] at H
            obtain ⟨c14b0, c14b1⟩ := qe c14
            clear c14
            obtain rfl := Option.some.inj H
            have p103 : 0 ≤ (x3_1 : Int) := qa
            have q103 : x3_1 < (l0.length : Int) := qa
            obtain ⟨ad103, A103_2, c103_2, e103, hx103_0, hx103_1, hx103_2, hl103_2, hi103_2⟩ := at_T43 HR0.out x3_1 p103 q103
            cases e103
            replace hx103_0 := qc HB.out hx103_0
            replace hx103_1 := qc HB.out hx103_1
            replace hx103_2 := qc HB.out hx103_2
            have HR103_2 := Aside0.mk hi103_2
            have HC103_2 := Aside0.mk hl103_2
            clear hi103_2 hl103_2
            replace p103 := eq_true p103
            replace q103 := eq_true q103
            have p104 : 0 ≤ (x3_1 : Int) := qa
            have q104 : x3_1 < (l0.length : Int) := qa
            obtain ⟨ad104, A104_2, c104_2, e104, hx104_0, hx104_1, hx104_2, hl104_2, hi104_2⟩ := at_T43 HR0.out x3_1 p104 q104
            obtain rfl : ad103 = ad104 := (by injection e104)
            replace hx104_0 := qc HB.out hx104_0
            replace hx104_1 := qc HB.out hx104_1
            replace hx104_2 := qc HB.out hx104_2
            have HR104_2 := Aside0.mk hi104_2
            have HC104_2 := Aside0.mk hl104_2
            clear hi104_2 hl104_2
            replace p104 := eq_true p104
            replace q104 := eq_true q104
            have ea_ := Option.some.inj (hx103_2.symm.trans hx104_2)
            injection ea_ with ea_ en_ ec_
            subst ea_
            subst ec_
            clear en_
            have p105 : 0 ≤ (x4_3 : Int) := qa
            have q105 : x4_3 < (((rd_T43 l0 x3_1).f2).length : Int) := qa
            obtain ⟨ad105, A105_5, c105_5, e105, hx105_0, hx105_1, hx105_2, hx105_3, hx105_4, hx105_5, hl105_5, hi105_5⟩ := at_T40 HR104_2.out x4_3 p105 q105
            cases e105
            replace hx105_0 := qc HB.out hx105_0
            replace hx105_1 := qc HB.out hx105_1
            replace hx105_2 := qc HB.out hx105_2
            replace hx105_3 := qc HB.out hx105_3
            replace hx105_4 := qc HB.out hx105_4
            replace hx105_5 := qc HB.out hx105_5
            have HR105_5 := Aside0.mk hi105_5
            have HC105_5 := Aside0.mk hl105_5
            clear hi105_5 hl105_5
            replace p105 := eq_true p105
            replace q105 := eq_true q105
            have p106 : 0 ≤ (x3_1 : Int) := qa
            have q106 : x3_1 < (l0.length : Int) := qa
            obtain ⟨ad106, A106_2, c106_2, e106, hx106_0, hx106_1, hx106_2, hl106_2, hi106_2⟩ := at_T43 HR0.out x3_1 p106 q106
            obtain rfl : ad103 = ad106 := (by injection e106)
            replace hx106_0 := qc HB.out hx106_0
            replace hx106_1 := qc HB.out hx106_1
            replace hx106_2 := qc HB.out hx106_2
            have HR106_2 := Aside0.mk hi106_2
            have HC106_2 := Aside0.mk hl106_2
            clear hi106_2 hl106_2
            replace p106 := eq_true p106
            replace q106 := eq_true q106
            have ea_ := Option.some.inj (hx103_2.symm.trans hx106_2)
            injection ea_ with ea_ en_ ec_
            subst ea_
            subst ec_
            clear en_
            have p107 : 0 ≤ (x4_3 : Int) := qa
            have q107 : x4_3 < (((rd_T43 l0 x3_1).f2).length : Int) := qa
            obtain ⟨ad107, A107_5, c107_5, e107, hx107_0, hx107_1, hx107_2, hx107_3, hx107_4, hx107_5, hl107_5, hi107_5⟩ := at_T40 HR106_2.out x4_3 p107 q107
            cases e107
            replace hx107_0 := qc HB.out hx107_0
            replace hx107_1 := qc HB.out hx107_1
            replace hx107_2 := qc HB.out hx107_2
            replace hx107_3 := qc HB.out hx107_3
            replace hx107_4 := qc HB.out hx107_4
            replace hx107_5 := qc HB.out hx107_5
            have HR107_5 := Aside0.mk hi107_5
            have HC107_5 := Aside0.mk hl107_5
            clear hi107_5 hl107_5
            replace p107 := eq_true p107
            replace q107 := eq_true q107
            go_wp2_with (first | (go_at_call 28; (with_reducible refine (malthouseref02_Weight.calls k3 ((rd_T40 ((rd_T43 l0 x3_1).f2) x4_3).f2.f0) ((rd_T40 ((rd_T43 l0 x3_1).f2) x4_3).f2.f1) ((rd_T40 ((rd_T43 l0 x3_1).f2) x4_3).f2.f2) _ _ ((rd_T40 ((rd_T43 l0 x3_1).f2) x4_3).f2.f3) 200 t108 _ ?side1 ?side2 A13.out).mono ?_); (case side1 => repeat (first | exact (Kd.C_below HR107_5.out HB.out) | exact (Kd.C_below HR105_5.out HB.out) | (with_reducible refine Kd.C_alloc ?_ _) | (with_reducible refine Kd.C_drewN ?_ _) | (with_reducible refine Kd.C_drew ?_))); (case side2 => first | exact HC107_5.out | exact HC105_5.out); rintro e w15 ⟨rfl, hb⟩; have n0_ := qs hb; clear HB; have HB := n0_; clear n0_; (try clear hb)))
            go_ret
            exact qr
           rw [if_neg c14] at H
           obtain ⟨c14b0, c14b1⟩ := qd c14
           have H' := Aside0.mk H
           clear H
           have p103 : 0 ≤ (x3_1 : Int) := qa
           have q103 : x3_1 < (l0.length : Int) := qa
           obtain ⟨ad103, A103_2, c103_2, e103, hx103_0, hx103_1, hx103_2, hl103_2, hi103_2⟩ := at_T43 HR0.out x3_1 p103 q103
           cases e103
           replace hx103_0 := qc HB.out hx103_0
           replace hx103_1 := qc HB.out hx103_1
           replace hx103_2 := qc HB.out hx103_2
           have HR103_2 := Aside0.mk hi103_2
           have HC103_2 := Aside0.mk hl103_2
           clear hi103_2 hl103_2
           replace p103 := eq_true p103
           replace q103 := eq_true q103
           have p104 : 0 ≤ (x3_1 : Int) := qa
           have q104 : x3_1 < (l0.length : Int) := qa
           obtain ⟨ad104, A104_2, c104_2, e104, hx104_0, hx104_1, hx104_2, hl104_2, hi104_2⟩ := at_T43 HR0.out x3_1 p104 q104
           obtain rfl : ad103 = ad104 := (by injection e104)
           replace hx104_0 := qc HB.out hx104_0
           replace hx104_1 := qc HB.out hx104_1
           replace hx104_2 := qc HB.out hx104_2
           have HR104_2 := Aside0.mk hi104_2
           have HC104_2 := Aside0.mk hl104_2
           clear hi104_2 hl104_2
           replace p104 := eq_true p104
           replace q104 := eq_true q104
           have ea_ := Option.some.inj (hx103_2.symm.trans hx104_2)
           injection ea_ with ea_ en_ ec_
           subst ea_
           subst ec_
           clear en_
           have p105 : 0 ≤ (x4_3 : Int) := qa
           have q105 : x4_3 < (((rd_T43 l0 x3_1).f2).length : Int) := qa
           obtain ⟨ad105, A105_5, c105_5, e105, hx105_0, hx105_1, hx105_2, hx105_3, hx105_4, hx105_5, hl105_5, hi105_5⟩ := at_T40 HR104_2.out x4_3 p105 q105
           cases e105
           replace hx105_0 := qc HB.out hx105_0
           replace hx105_1 := qc HB.out hx105_1
           replace hx105_2 := qc HB.out hx105_2
           replace hx105_3 := qc HB.out hx105_3
           replace hx105_4 := qc HB.out hx105_4
           replace hx105_5 := qc HB.out hx105_5
           have HR105_5 := Aside0.mk hi105_5
           have HC105_5 := Aside0.mk hl105_5
           clear hi105_5 hl105_5
           replace p105 := eq_true p105
           replace q105 := eq_true q105
           have p106 : 0 ≤ (x3_1 : Int) := qa
           have q106 : x3_1 < (l0.length : Int) := qa
           obtain ⟨ad106, A106_2, c106_2, e106, hx106_0, hx106_1, hx106_2, hl106_2, hi106_2⟩ := at_T43 HR0.out x3_1 p106 q106
           obtain rfl : ad103 = ad106 := (by injection e106)
           replace hx106_0 := qc HB.out hx106_0
           replace hx106_1 := qc HB.out hx106_1
           replace hx106_2 := qc HB.out hx106_2
           have HR106_2 := Aside0.mk hi106_2
           have HC106_2 := Aside0.mk hl106_2
           clear hi106_2 hl106_2
           replace p106 := eq_true p106
           replace q106 := eq_true q106
           have ea_ := Option.some.inj (hx103_2.symm.trans hx106_2)
           injection ea_ with ea_ en_ ec_
           subst ea_
           subst ec_
           clear en_
           have p107 : 0 ≤ (x4_3 : Int) := qa
           have q107 : x4_3 < (((rd_T43 l0 x3_1).f2).length : Int) := qa
           obtain ⟨ad107, A107_5, c107_5, e107, hx107_0, hx107_1, hx107_2, hx107_3, hx107_4, hx107_5, hl107_5, hi107_5⟩ := at_T40 HR106_2.out x4_3 p107 q107
           cases e107
           replace hx107_0 := qc HB.out hx107_0
           replace hx107_1 := qc HB.out hx107_1
           replace hx107_2 := qc HB.out hx107_2
           replace hx107_3 := qc HB.out hx107_3
           replace hx107_4 := qc HB.out hx107_4
           replace hx107_5 := qc HB.out hx107_5
           have HR107_5 := Aside0.mk hi107_5
           have HC107_5 := Aside0.mk hl107_5
           clear hi107_5 hl107_5
           replace p107 := eq_true p107
           replace q107 := eq_true q107
           go_wp2_with (first | (go_at_call 28; (with_reducible refine (malthouseref02_Weight.calls k3 ((rd_T40 ((rd_T43 l0 x3_1).f2) x4_3).f2.f0) ((rd_T40 ((rd_T43 l0 x3_1).f2) x4_3).f2.f1) ((rd_T40 ((rd_T43 l0 x3_1).f2) x4_3).f2.f2) _ _ ((rd_T40 ((rd_T43 l0 x3_1).f2) x4_3).f2.f3) 200 t108 _ ?side1 ?side2 A13.out).mono ?_); (case side1 => repeat (first | exact (Kd.C_below HR107_5.out HB.out) | exact (Kd.C_below HR105_5.out HB.out) | (with_reducible refine Kd.C_alloc ?_ _) | (with_reducible refine Kd.C_drewN ?_ _) | (with_reducible refine Kd.C_drew ?_))); (case side2 => first | exact HC107_5.out | exact HC105_5.out); rintro e w16 ⟨rfl, hb⟩; have n0_ := qs hb; clear HB; have HB := n0_; clear n0_; (try clear hb)))
           go_roundg k3
           case measure => have := HK1.out; have := HJ3.out; have := HK3.out; omega
           case rel => exact ⟨(wrap64 (x4_3 + 1)), qv, H', ⟨by have := HK1.out; have := HJ3.out; have := HK3.out; omega⟩, qB⟩
          rw [if_neg c11] at H
          exact absurd H (by simp)
         rw [if_neg c10] at H
         have c10b0 : decide (x4_3 < (((rd_T43 l0 x3_1).f2).length : Int)) = false := decide_eq_false c10
         clear c10
         have H' := Aside0.mk H
         clear H
         have p103 : 0 ≤ (x3_1 : Int) := qa
         have q103 : x3_1 < (l0.length : Int) := qa
         obtain ⟨ad103, A103_2, c103_2, e103, hx103_0, hx103_1, hx103_2, hl103_2, hi103_2⟩ := at_T43 HR0.out x3_1 p103 q103
         cases e103
         replace hx103_0 := qc HB.out hx103_0
         replace hx103_1 := qc HB.out hx103_1
         replace hx103_2 := qc HB.out hx103_2
         have HR103_2 := Aside0.mk hi103_2
         have HC103_2 := Aside0.mk hl103_2
         clear hi103_2 hl103_2
         replace p103 := eq_true p103
         replace q103 := eq_true q103
         go_wp2
         go_roundg k3
         case measure => have := HK1.out; have := HJ3.out; have := HK3.out; omega
         case rel => exact ⟨(wrap64 (x3_1 + 1)), qv, H', ⟨by have := HK1.out; have := HJ3.out; have := HK3.out; omega⟩, qB⟩
        rw [if_neg c9] at H
        exact absurd H (by simp)
       rw [if_neg c8] at H
       exact absurd H (by simp)
   rw [if_neg c3] at H
   have c3b0 : decide (x3_1 < (l0.length : Int)) = false := decide_eq_false c3
   clear c3
   obtain rfl := Option.some.inj H
   go_wp2
   go_ret
   exact qr
def malthouseref09_Place.l0 : Nat → List ByteArray → ByteArray → Int → Option (Int)
  | 0, _, _, _ => none
  | k + 1, x0, x1, x5 => if x5 < (x0.length : Int) then (if 0 ≤ x5 then (if (rdOf ByteArray.empty x0 x5).toList = x1.toList then (some x5) else (malthouseref09_Place.l0 k x0 x1 (wrap64 (x5 + 1)))) else (none)) else (some (-1))
def malthouseref09_Place.f (k : Nat) (l0 : List ByteArray) (a1 : ByteArray) : Option (Int) := malthouseref09_Place.l0 k l0 a1 0
set_option maxHeartbeats 8000000 in
set_option maxRecDepth 100000 in
theorem malthouseref09_Place.calls (k : Nat) (A0 : Option Addr) (c0 : Nat) (l0 : List ByteArray) (a1 : ByteArray) (r : Int) (w : World) (hr0 : Kd.C Kd.string w A0 l0.length l0) (hc0 : l0.length ≤ c0) (h : malthouseref09_Place.f k l0 a1 = some r) :
    Calls Tryd.prog 33 #[.slice A0 l0.length c0, .string a1] w fun e w' => e = .returned (.int .i64 r) ∧ Drawn0 w w' := by
  have HR0 := Aside0.mk hr0
  have HC0 := Aside0.mk hc0
  clear hr0 hc0
  have H : (malthouseref09_Place.l0 k l0 a1 0) = some r := h
  clear h
  have H' := Aside0.mk H
  clear H
  go_enter Tryd.func33, Tryd.ntmps33
  go_wp2
  go_loopg [5] k (fun kq v5 w' => ∃ (x5_1 : Int), v5 = .int .i64 x5_1 ∧ Aside0 (malthouseref09_Place.l0 kq l0 a1 x5_1 = some r) ∧ Aside0 (kq ≤ k) ∧ Drawn0 w w')
  case atStart => exact ⟨(0), qv, H', ⟨Nat.le_refl _⟩, by repeat (first | exact Drawn0.refl _ | apply Drawn0.step)⟩
  case round =>
    clear H'
    obtain ⟨x5_1, rfl, HA, HK1, ⟨m1, rfl⟩⟩ := hrel
    cases gk with
    | zero => exact absurd HA.out (by simp [malthouseref09_Place.l0])
    | succ k1 =>
      have H := HA.out
      clear HA
      simp only [malthouseref09_Place.l0] at H
      by_cases c3 : x5_1 < (l0.length : Int)
      · rw [if_pos c3] at H
        have c3b0 : decide (x5_1 < (l0.length : Int)) = true := decide_eq_true c3
        clear c3
        by_cases c4 : 0 ≤ x5_1
        · rw [if_pos c4] at H
          have c4b0 : decide (0 ≤ x5_1) = true := decide_eq_true c4
          clear c4
          by_cases c5 : (rdOf ByteArray.empty l0 x5_1).toList = a1.toList
          · rw [if_pos c5] at H
            obtain ⟨c5b0, c5b1⟩ := qe c5
            clear c5
            obtain rfl := Option.some.inj H
            have p101 : 0 ≤ (x5_1 : Int) := qa
            have q101 : x5_1 < (l0.length : Int) := qa
            obtain ⟨ad101, e101, hx101_0⟩ := Kd.at_string HR0.out x5_1 p101 q101
            cases e101
            replace p101 := eq_true p101
            replace q101 := eq_true q101
            go_wp2
            go_ret
            exact ⟨by first | rfl | (simp; done) | (simp [*]; done), by repeat (first | exact Drawn0.refl _ | apply Drawn0.step)⟩
          rw [if_neg c5] at H
          obtain ⟨c5b0, c5b1⟩ := qd c5
          have H' := Aside0.mk H
          clear H
          have p101 : 0 ≤ (x5_1 : Int) := qa
          have q101 : x5_1 < (l0.length : Int) := qa
          obtain ⟨ad101, e101, hx101_0⟩ := Kd.at_string HR0.out x5_1 p101 q101
          cases e101
          replace p101 := eq_true p101
          replace q101 := eq_true q101
          go_wp2
          go_roundg k1
          case measure => have := HK1.out; omega
          case rel => exact ⟨(wrap64 (x5_1 + 1)), qv, H', ⟨by have := HK1.out; omega⟩, by repeat (first | exact Drawn0.refl _ | apply Drawn0.step)⟩
        rw [if_neg c4] at H
        exact absurd H (by simp)
      rw [if_neg c3] at H
      have c3b0 : decide (x5_1 < (l0.length : Int)) = false := decide_eq_false c3
      clear c3
      obtain rfl := Option.some.inj H
      go_wp2
      go_ret
      exact ⟨by first | rfl | (simp; done) | (simp [*]; done), by repeat (first | exact Drawn0.refl _ | apply Drawn0.step)⟩
def malthouselaw09_below.f (a0 : ByteArray) (a1 : Int) : Option (Int × ByteArray × Int × Int × ByteArray × (List (S34))) := some (2, (⟨#[]⟩ : ByteArray), 9, 0, (⟨#[]⟩ : ByteArray), (([(⟨1, 0, a0, ([] : List (S34))⟩ : S34), (⟨0, a1, (⟨#[]⟩ : ByteArray), ([] : List (S34))⟩ : S34)] : List (S34))))
set_option maxHeartbeats 8000000 in
set_option maxRecDepth 100000 in
theorem malthouselaw09_below.calls (a0 : ByteArray) (a1 : Int) (r1 : Int) (r2 : ByteArray) (r3 : Int) (r4 : Int) (r5 : ByteArray) (r6 : List (S34)) (w : World) (h : malthouselaw09_below.f a0 a1 = some (r1, r2, r3, r4, r5, r6)) :
    Calls Tryd.prog 57 #[.string a0, .int .i64 a1] w fun e w' => ∃ v5_ : Value, e = .returned (.agg #[.int .i64 r1, .string r2, .int .i64 r3, .int .i64 r4, .string r5, v5_]) ∧ Kd.R k34 34 w' w.heap.size (fun _ => True) v5_ r6 ∧ Below w.heap.size w w' := by
  have hu40 := Tryd.underlying40
  have hu34 := Tryd.underlying34
  have HB := Aside0.mk (Below.refl w.heap.size w)
  have H : (some (2, (⟨#[]⟩ : ByteArray), 9, 0, (⟨#[]⟩ : ByteArray), (([(⟨1, 0, a0, ([] : List (S34))⟩ : S34), (⟨0, a1, (⟨#[]⟩ : ByteArray), ([] : List (S34))⟩ : S34)] : List (S34))))) = some (r1, r2, r3, r4, r5, r6) := h
  clear h
  obtain ⟨y102, hy102⟩ : ∃ y_ : List (S34), y_ = (([(⟨1, 0, a0, ([] : List (S34))⟩ : S34), (⟨0, a1, (⟨#[]⟩ : ByteArray), ([] : List (S34))⟩ : S34)] : List (S34))) := ⟨_, rfl⟩
  replace H : (some (2, (⟨#[]⟩ : ByteArray), 9, 0, (⟨#[]⟩ : ByteArray), y102)) = some (r1, r2, r3, r4, r5, r6) := by first | (rw [hy102]; with_reducible exact H) | (have H2_ := (Option.bind_some _ _).symm.trans H; rw [hy102]; with_reducible exact H2_) | (have H2_ := (Option.bind_some _ _).symm.trans H; with_reducible exact H2_) | with_reducible exact H | (rw [hy102]; exact H) | exact H
  have Ny102 := Aside0.mk hy102
  clear hy102
  simp only [Option.some.injEq, Prod.mk.injEq] at H
  obtain ⟨rfl, rfl, rfl, rfl, rfl, rfl⟩ := H
  go_enter Tryd.func57, Tryd.ntmps57
  go_wp2_with (first | ((with_reducible refine gate_dst (N := 4) rfl ?_); refine box_event ?hg (N := 4) ?hd (cs := #[.int .i64 0, .string (⟨#[]⟩ : ByteArray), .int .i64 0, .int .i64 0, .string (⟨#[]⟩ : ByteArray), .slice none 0 0]) (t := 40) ?hr ?_; (case hd => rfl); (case hg => rfl); (case hr => first | (go_simp; done) | (go_simp; rfl)); intro gb101 hg w3 hbox hb; have n0_ := qs hb; have n1_ := Aside0.mk (hbox); have n2_ := Aside0.mk ((by rw [hg]; exact (below_size qb) : w.heap.size ≤ gb101)); have n3_ := Aside0.mk ((by rw [hg]; exact (below_size qb) : w.heap.size ≤ gb101)); clear HB; have HB := n0_; have BK101 := n1_; have GW101 := n2_; have GE101 := n3_; clear n0_ n1_ n2_ n3_; clear hb hbox hg) | ((with_reducible refine gate_dst (N := 9) rfl ?_); refine Kd.R_lit k34 _ 34 ?hg (N := 9) ?hd (xs := ([(⟨1, 0, a0, ([] : List (S34))⟩ : S34), (⟨0, a1, (⟨#[]⟩ : ByteArray), ([] : List (S34))⟩ : S34)] : List (S34))) (inner := [.int .i64 1, .int .i64 0, .string a0, .slice none 0 0, .int .i64 0, .int .i64 a1, .string (⟨#[]⟩ : ByteArray), .slice none 0 0]) (ok := fun _ => True) (okp := fun _ => True) ?hr ?hp (fun _ hk => hk) trivial (Below.refl _ _) (Nat.le_refl _) (by simp) ?_; (case hd => rfl); (case hg => rfl); (case hr => first | (go_simp; done) | (go_simp; rfl)); (case hp => exact (Reps.c4 (show Kd.M k34 _ _ _ (⟨1, 0, a0, ([] : List (S34))⟩ : S34) [.int .i64 1, .int .i64 0, .string a0, .slice none 0 0] from (k34_mkM _ _ _ (⟨1, 0, a0, ([] : List (S34))⟩ : S34) (Kd.R_nil _ _ _ _ _))) (Reps.c4 (show Kd.M k34 _ _ _ (⟨0, a1, (⟨#[]⟩ : ByteArray), ([] : List (S34))⟩ : S34) [.int .i64 0, .int .i64 a1, .string (⟨#[]⟩ : ByteArray), .slice none 0 0] from (k34_mkM _ _ _ (⟨0, a1, (⟨#[]⟩ : ByteArray), ([] : List (S34))⟩ : S34) (Kd.R_nil _ _ _ _ _))) (Reps.none _ _)))); intro v103 w4 ho5 hb hg_ hnew_; clear hg_ hnew_; (first | rw [← Ny102.out] at ho5 | (simp only [Int.reduceToNat] at ho5; rw [← Ny102.out] at ho5)); have n0_ := Aside0.mk (Kd.R_lower ho5 (below_size qb)); have n1_ := qn101 (g := gb101) hb; have n2_ := qs hb; clear BK101; clear HB; have HO104 := n0_; have BK101 := n1_; have HB := n2_; clear n0_ n1_ n2_; clear hb ho5; obtain ⟨Ao6, co6, eo6⟩ := Kd.R_slice HO104.out; subst eo6; obtain ⟨_, _, _, _, _, _, _, _, _, _, _, _⟩ := q6 BK101.out))
  refine bodyPost_ret (results_cell_row rfl _ _ gb101 40 #[.int .i64 2, .string (⟨#[]⟩ : ByteArray), .int .i64 9, .int .i64 0, .string (⟨#[]⟩ : ByteArray), .slice Ao6 y102.length co6] (0, 0) _ rfl qy101 Tryd.underlying40 rfl (by kernel_rfl)) rfl ?_
  exact ⟨_, by first | rfl | (simp [errW_none, errW_some] <;> rfl) | (simp [*, errW_none, errW_some] <;> rfl), by (with_reducible repeat (first | apply Kd.R_alloc | apply Kd.R_drewN | apply Kd.R_drew)); exact Kd.R_mono (Kd.R_far (p := ⟨gb101, 5, none⟩) (Kd.R_far (p := ⟨gb101, 4, none⟩) (Kd.R_far (p := ⟨gb101, 3, none⟩) (Kd.R_far (p := ⟨gb101, 2, none⟩) (Kd.R_far (p := ⟨gb101, 1, none⟩) (Kd.R_far (p := ⟨gb101, 0, none⟩) (Kd.R_types HO104.out BK101.out (by decide)) (fun _ hk => hk.2) (.int .i64 2)) (fun _ hk => hk.2) (.string (⟨#[]⟩ : ByteArray))) (fun _ hk => hk.2) (.int .i64 9)) (fun _ hk => hk.2) (.int .i64 0)) (fun _ hk => hk.2) (.string (⟨#[]⟩ : ByteArray))) (fun _ hk => hk.2) (.slice Ao6 y102.length co6)) (fun _ hk => trivial), qb⟩
end Go.Proofs.YtiaccdaeomaogaaDoor.F
