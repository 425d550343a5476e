/- Texts of one claim, slimmed and merged by slim.py. -/
import Derived.Test.YtiaccdaeomaogaaDoorR4
import Derived.Test.YtiaccdaeomaogaaDoorR12
namespace Go.Proofs.YtiaccdaeomaogaaDoor.F
open Go.RowKit Go.Proofs.YtiaccdaeomaogaaDoorW.PrintWords Go.Proofs.YtiaccdaeomaogaaDoorW.PrintLast Go.Proofs.YtiaccdaeomaogaaDoorW.PrintMore
attribute [local go_sem] max2_int min2_int max_two min_two max_three min_three max_four min_four   -- for this text's walks alone
set_option linter.unusedVariables false
set_option linter.unusedSimpArgs false
theorem cellHeap {w w' : World} (h : w'.heap = w.heap) (a : Addr) : w'.cell? a = w.cell? a := by unfold World.cell?; rw [h]
set_option maxHeartbeats 8000000 in
set_option maxRecDepth 100000 in
theorem machine_bit (k g : Nat) (w : World) (AN : Option Addr) (cN : Nat) (nm : List ByteArray) (gb nb cB : Nat) (vE vS : Value) (name : ByteArray) (i : Int) (hb : w.heap[g]? = some (.cells #[.slice AN nm.length cN, .slice (some ⟨gb, 0, none⟩) nb cB, vE, vS] 105 (0, 0))) (hr : Kd.C Kd.string w AN nm.length nm) (hc : nm.length ≤ cN) (h : slices_Index_string_string.f k nm name = some i) (h0 : 0 ≤ i) (h1 : i < nb) :
  Calls Tryd.prog 68 #[.pointer (some ⟨g, 0, none⟩), .string name] w fun e w' => e = .returned (.pointer (some ⟨gb, i.toNat, none⟩)) ∧ Drawn0 w w' := by
 have hc0 : w.cell? ⟨g, 0, none⟩ = some (.slice AN nm.length cN) := (blk_cell hb 0).trans rfl
 have hc1 : w.cell? ⟨g, 1, none⟩ = some (.slice (some ⟨gb, 0, none⟩) nb cB) := (blk_cell hb 1).trans rfl
 have HX := Aside0.mk (slices_Index_string_string.calls k AN cN nm name i w.drew hr hc h)
 have d0 : decide (0 ≤ i) = true := decide_eq_true h0
 have d1 : decide (i < (nb : Int)) = true := decide_eq_true h1
 have p0 := eq_true h0
 have p1 := eq_true h1
 clear hb hr hc h h0 h1
 go_enter Tryd.func68, Tryd.ntmps68
 go_wp2
 refine start_ (n := 12) (S := fun w' => w'.heap = w.heap) (ds := []) #[Z,Z,Z,Z,Z,Z,Z,Z,Z,Z,Z,Z] (by kernel_rfl) rfl rfl rfl (fun hHeld => ?_)
 refine qpk 0 (some 5) ?_
 refine qpk 1 (some 6) ?_
 refine qpk 2 (some 7) ?_
 refine qpk 4 (some 9) ?_
 refine qpk 5 (some 10) ?_
 refine qpk 6 (some 11) ?_
 refine qpk 8 (some 13) ?_
 refine take_ (i := 3) (N := some 8) (v := ?_) (a' := ?_) #[Y,Y,Y,Y,Y,Y,Y,Z,Y,Z,Z,Z] rfl rfl (by kernel_rfl) (fun _ _ _ h => h) (Or.inl ⟨by rfl, ?_⟩) hHeld ?_ ?_
 rotate_left
 ·intro w' s0
  have q0 := (cellHeap s0 _).trans hc1
  go_simp
  with_reducible rfl
 rotate_left
 ·simp only [Act.put, List.setIfInBounds_toArray, List.set_cons_zero, List.set_cons_succ, i64_w, i32_w]
  rfl
 refine take_ (i := 7) (N := some 12) (v := ?_) (a' := ?_) #[Y,Y,Y,Y,Y,Y,Y,Y,Y,Z,Z,Z] rfl rfl (by kernel_rfl) (fun _ _ _ h => h) (Or.inl ⟨by rfl, ?_⟩) hHeld ?_ ?_
 rotate_left
 ·intro w' s0
  have q0 := (cellHeap s0 _).trans hc0
  go_simp
  with_reducible rfl
 rotate_left
 ·simp only [Act.put, List.setIfInBounds_toArray, List.set_cons_zero, List.set_cons_succ, i64_w, i32_w]
  rfl
 refine one_ (i := 9) (N := some 14) #[Y,Y,Y,Y,Y,Y,Y,Y,Y,Y,Z,Z] rfl rfl (by kernel_rfl) (by decide) (fun K hK => ?_)
 refine goes_ Tryd.func93 (by kernel_rfl) rfl #[.slice AN nm.length cN, .string name] (by rfl) rfl rfl (by (try simp only [List.map_toArray, List.map_cons, List.map_nil]); first | done | rfl) ?_
 refine (HX.out).mono ?_
 rintro e w6 ⟨rfl, ⟨n1, rfl⟩⟩
 refine ⟨_, rfl, ?_⟩
 refine hK.out _ _ rfl (fun hHeld => ?_)
 clear hK K
 refine norm_ (a' := ?_) ?_ ?_
 rotate_left
 ·show Act.put _ (some 14) _ = _
  simp only [Act.put, List.setIfInBounds_toArray, List.set_cons_zero, List.set_cons_succ, i64_w, i32_w]
  rfl
 refine qpk 10 (some 15) ?_
 refine qpk 11 (some 4) ?_
 refine done_ (by kernel_rfl) ?_
 go_wp2
 go_ret
 exact ⟨rfl, ⟨_, World.drewN_drewN w 1 n1⟩⟩
end Go.Proofs.YtiaccdaeomaogaaDoor.F
