/- Texts of one claim, slimmed and merged by slim.py. -/
import Derived.Lib.DecodeN
import Derived.Test.YtiaccdaeomaogaaDoorT4
import Derived.Test.YtiaccdaeomaogaaDoorT12
import Derived.Test.YtiaccdaeomaogaaDoorT22
namespace Go.Proofs.YtiaccdaeomaogaaDoor.F
open Go.RowKit Go.Proofs.YtiaccdaeomaogaaDoorW.PrintWords Go.Proofs.YtiaccdaeomaogaaDoorW.PrintLast Go.Proofs.YtiaccdaeomaogaaDoorW.PrintMore
attribute [local go_sem] max2_int min2_int max_two min_two max_three min_three max_four min_four   -- for this text's walks alone
set_option linter.unusedVariables false
set_option linter.unusedSimpArgs false
def malthouseref01_Runes.l0 : Nat → ByteArray → Int → ByteArray → List Int → List Int → Option (ByteArray × List Int × List Int × Bool)
  | 0, _, _, _, _, _ => none
  | k + 1, x0, x5, x103000, x103001, x103002 => if x5 < (x0.size : Int) then ((malthouseref01_Rune.f k x0 x5).bind fun bt103 => (if bt103.2 = 0 then (some (x103000, x103001, x103002, false)) else (if x103001.length < 17592186044416 then (if x103002.length < 17592186044416 then (malthouseref01_Runes.l0 k x0 (wrap64 (x5 + bt103.2)) x103000 (x103001 ++ [bt103.1]) (x103002 ++ [x5])) else (none)) else (none)))) else (if x103002.length < 17592186044416 then (some (x103000, x103001, (x103002 ++ [(x0.size : Int)]), true)) else (none))
def malthouseref01_Runes.f (k : Nat) (a0 : ByteArray) : Option (ByteArray × List Int × List Int × Bool) := malthouseref01_Runes.l0 k a0 0 a0 ([] : List Int) ([] : List Int)
set_option maxHeartbeats 8000000 in
set_option maxRecDepth 100000 in
theorem malthouseref01_Runes.calls (k : Nat) (a0 : ByteArray) (r1 : ByteArray) (r2 : List Int) (r3 : List Int) (r4 : Bool) (w : World) (h : malthouseref01_Runes.f k a0 = some (r1, r2, r3, r4)) :
    Calls Tryd.prog 124 #[.string a0] w fun e w' => ∃ v1_ v2_ : Value, e = .returned (.tuple #[.agg #[.string r1, v1_, v2_], .bool r4]) ∧ Kd.R (Kd.int .i64) 3 w' w.heap.size (fun k_ => some k_ ≠ (v2_ : Value).ownBlock) v1_ r2 ∧ Kd.R (Kd.int .i64) 3 w' w.heap.size (fun k_ => some k_ ≠ (v1_ : Value).ownBlock) v2_ r3 ∧ Below w.heap.size w w' := by
  have hu171 := Tryd.underlying171
  have HB := Aside0.mk (Below.refl w.heap.size w)
  have H : (malthouseref01_Runes.l0 k a0 0 a0 ([] : List Int) ([] : List Int)) = some (r1, r2, r3, r4) := h
  clear h
  have H' := Aside0.mk H
  clear H
  go_enter Tryd.func124, Tryd.ntmps124
  go_wp2_with (first | ((with_reducible refine gate_dst (N := 2) rfl ?_); refine box_event ?hg (N := 2) ?hd (cs := #[.string (⟨#[]⟩ : ByteArray), .slice none 0 0, .slice none 0 0]) (t := 171) ?hr ?_; (case hd => rfl); (case hg => rfl); (case hr => first | (go_simp; done) | (go_simp; rfl)); intro gb101 hg w2 hbox hb; have n0_ := qs hb; have n1_ := Aside0.mk (hbox); have n2_ := Aside0.mk ((by rw [hg]; exact (below_size qb) : w.heap.size ≤ gb101)); have n3_ := Aside0.mk ((by rw [hg]; exact (below_size qb) : w.heap.size ≤ gb101)); clear HB; have HB := n0_; have BK101 := n1_; have GW101 := n2_; have GE101 := n3_; clear n0_ n1_ n2_ n3_; clear hb hbox hg) | ((with_reducible refine gate_dst (N := 4) rfl ?_); refine box_event ?hg (N := 4) ?hd (cs := #[.string (⟨#[]⟩ : ByteArray), .slice none 0 0, .slice none 0 0]) (t := 171) ?hr ?_; (case hd => rfl); (case hg => rfl); (case hr => first | (go_simp; done) | (go_simp; rfl)); intro gb102 hg w3 hbox hb; have n0_ := qn101 (g := gb101) hb; have n1_ := qs hb; have n2_ := Aside0.mk (hbox); have n3_ := Aside0.mk ((by rw [hg]; exact (below_size qb) : w.heap.size ≤ gb102)); have n4_ := Aside0.mk ((by rw [hg]; exact (below_size qb) : w.heap.size ≤ gb102)); have n5_ := Aside0.mk ((by rw [hg]; exact Nat.ne_of_lt (blk_lt (g := gb101) (o := .cells #[.string (⟨#[]⟩ : ByteArray), .slice none 0 0, .slice none 0 0] 171 (0, 0)) (by (with_reducible repeat (first | refine blk_drewN ?_ _ | refine blk_drew ?_ | refine blk_alloc ?_ _)); exact BK101.out)) : gb101 ≠ gb102)); have n6_ := Aside0.mk ((by rw [hg]; exact Nat.ne_of_gt (blk_lt (g := gb101) (o := .cells #[.string (⟨#[]⟩ : ByteArray), .slice none 0 0, .slice none 0 0] 171 (0, 0)) (by (with_reducible repeat (first | refine blk_drewN ?_ _ | refine blk_drew ?_ | refine blk_alloc ?_ _)); exact BK101.out)) : gb102 ≠ gb101)); clear BK101; clear HB; have BK101 := n0_; have HB := n1_; have BK102 := n2_; have GW102 := n3_; have GE102 := n4_; have NB101_102 := n5_; have NB102_101 := n6_; clear n0_ n1_ n2_ n3_ n4_ n5_ n6_; clear hb hbox hg; have hnb4 := NB102_101.out; have hnc4 := NB101_102.out; obtain ⟨_, _, _, _, _, _⟩ := q3 BK102.out))
  go_loopg [5] k (fun kq v5 w' => ∃ (x5_1 : Int) (x102000_1 : ByteArray) (x103001_1 : List Int) (x103002_1 : List Int) (u103001 : Value) (u103002 : Value), v5 = .int .i64 x5_1 ∧ Aside0 (malthouseref01_Runes.l0 kq a0 x5_1 a0 x103001_1 x103002_1 = some (r1, r2, r3, r4)) ∧ Aside0 (kq ≤ k) ∧ Aside0 (Kd.R (Kd.int .i64) 3 w' w.heap.size (fun k_ => some k_ ≠ (u103002 : Value).ownBlock) u103001 x103001_1) ∧ Aside0 (Kd.R (Kd.int .i64) 3 w' w.heap.size (fun k_ => some k_ ≠ (u103001 : Value).ownBlock) u103002 x103002_1) ∧ Aside0 (w'.heap[gb101]? = some (.cells #[.string x102000_1, (.slice none 0 0), (.slice none 0 0)] 171 (0, 0))) ∧ Aside0 (w'.heap[gb102]? = some (.cells #[.string a0, u103001, u103002] 171 (0, 0))) ∧ Aside0 (Below w.heap.size w w'))
  case atStart => exact ⟨(0), ((⟨#[]⟩ : ByteArray)), (([] : List Int)), (([] : List Int)), (.slice none 0 0), (.slice none 0 0), qv, H', ⟨Nat.le_refl _⟩, ⟨by first | exact Kd.R_nil _ _ _ _ _ | exact Kd.N_nil _ _ _ _ _ | exact Kd.V_nil _ _ _ _ _ | exact Kd.Q_nil _ _ _ _ _ | exact Kd.S_nil _ _ _ _ _⟩, ⟨by first | exact Kd.R_nil _ _ _ _ _ | exact Kd.N_nil _ _ _ _ _ | exact Kd.V_nil _ _ _ _ _ | exact Kd.Q_nil _ _ _ _ _ | exact Kd.S_nil _ _ _ _ _⟩, ⟨by (with_reducible repeat (first | refine blk_drewN ?_ _ | refine blk_drew ?_ | refine blk_alloc ?_ _)); refine blk_far ?_ NB101_102.out _; (with_reducible repeat (first | refine blk_drewN ?_ _ | refine blk_drew ?_ | refine blk_alloc ?_ _)); refine blk_far ?_ NB101_102.out _; (with_reducible repeat (first | refine blk_drewN ?_ _ | refine blk_drew ?_ | refine blk_alloc ?_ _)); refine blk_far ?_ NB101_102.out _; (with_reducible repeat (first | refine blk_drewN ?_ _ | refine blk_drew ?_ | refine blk_alloc ?_ _)); exact BK101.out⟩, qY102, qB⟩
  case round =>
    clear H'
    obtain ⟨x5_1, x102000_1, x103001_1, x103002_1, u103001, u103002, rfl, HA, HK1, HO_103001, HO_103002, BK101, BK102, HB⟩ := hrel
    cases gk with
    | zero => exact absurd HA.out (by simp [malthouseref01_Runes.l0])
    | succ k1 =>
      have H := HA.out
      clear HA
      simp only [malthouseref01_Runes.l0] at H
      by_cases c6 : x5_1 < (a0.size : Int)
      · rw [if_pos c6] at H
        have c6b0 : decide (x5_1 < (a0.size : Int)) = true := decide_eq_true c6
        clear c6
        replace H := qi H
        obtain ⟨⟨t103, t104⟩, A7, H⟩ := H
        replace H : (if t104 = 0 then (some (a0, x103001_1, x103002_1, false)) else (if x103001_1.length < 17592186044416 then (if x103002_1.length < 17592186044416 then (malthouseref01_Runes.l0 k1 a0 (wrap64 (x5_1 + t104)) a0 (x103001_1 ++ [t103]) (x103002_1 ++ [x5_1])) else (none)) else (none))) = some (r1, r2, r3, r4) := H
        by_cases c8 : t104 = 0
        · rw [if_pos c8] at H
          obtain ⟨c8b0, c8b1⟩ := qe c8
          clear c8
          simp only [Option.some.injEq, Prod.mk.injEq] at H
          obtain ⟨rfl, rfl, rfl, rfl⟩ := H
          go_wp2_with (first | ((with_reducible refine gate_callee (f := 150) rfl ?_); refine goesL_ (some 17) rfl rfl Tryd.func150 (by kernel_rfl) rfl #[.string a0, .int .i64 x5_1] rfl qm ?_; (with_reducible refine (malthouseref01_Rune.calls k1 a0 x5_1 t103 t104 _ A7.out).mono ?_); rintro e w' ⟨rfl, ⟨nd, rfl⟩⟩; refine ⟨_, rfl, ?_⟩; (try (rw [drewN_self wr]; generalize hq_ : World.drewN wr _ = wr; have n0_ : Aside0 (Kd.R (Kd.int .i64) 3 wr w.heap.size (fun k_ => some k_ ≠ (u103002 : Value).ownBlock) u103001 x103001_1) := ⟨by rw [← hq_]; exact (by (with_reducible repeat (first | apply Kd.R_alloc | apply Kd.R_drewN | apply Kd.R_drew)); exact HO_103001.out)⟩; have n1_ : Aside0 (Kd.R (Kd.int .i64) 3 wr w.heap.size (fun k_ => some k_ ≠ (u103001 : Value).ownBlock) u103002 x103002_1) := ⟨by rw [← hq_]; exact (by (with_reducible repeat (first | apply Kd.R_alloc | apply Kd.R_drewN | apply Kd.R_drew)); exact HO_103002.out)⟩; have n2_ : Aside0 (wr.heap[gb101]? = some (.cells #[.string x102000_1, .slice none 0 0, .slice none 0 0] 171 (0, 0))) := ⟨by rw [← hq_]; exact (by (with_reducible repeat (first | refine blk_drewN ?_ _ | refine blk_drew ?_ | refine blk_alloc ?_ _)); exact BK101.out)⟩; have n3_ : Aside0 (wr.heap[gb102]? = some (.cells #[.string a0, u103001, u103002] 171 (0, 0))) := ⟨by rw [← hq_]; exact (by (with_reducible repeat (first | refine blk_drewN ?_ _ | refine blk_drew ?_ | refine blk_alloc ?_ _)); exact BK102.out)⟩; have n4_ : Aside0 (Below w.heap.size w wr) := ⟨by rw [← hq_]; exact qb⟩; clear HO_103001 HO_103002 BK101 BK102 HB hq_; have HO_103001 := n0_; have HO_103002 := n1_; have BK101 := n2_; have BK102 := n3_; have HB := n4_; clear n0_ n1_ n2_ n3_ n4_)); have hnb9 := NB102_101.out; have hnc9 := NB101_102.out; obtain ⟨_, _, _, _, _, _⟩ := q3 BK102.out; obtain ⟨_, _, _, _, _, _⟩ := q3 BK101.out; obtain ⟨Ao12, co12, eo12⟩ := Kd.R_slice HO_103001.out; subst eo12; obtain ⟨Ao13, co13, eo13⟩ := Kd.R_slice HO_103002.out; subst eo13))
          refine bodyPost_ret (results_ct rfl _ _ gb101 171 #[.string a0, .slice Ao12 x103001_1.length co12, .slice Ao13 x103002_1.length co13] (0, 0) _ rfl qy101 Tryd.underlying171 rfl (by kernel_rfl)) rfl ?_
          exact ⟨_, _, by first | rfl | (simp [errW_none, errW_some] <;> rfl) | (simp [*, errW_none, errW_some] <;> rfl), by (with_reducible repeat (first | apply Kd.R_alloc | apply Kd.R_drewN | apply Kd.R_drew)); exact Kd.R_mono (Kd.R_far (p := ⟨gb101, 2, none⟩) (Kd.R_far (p := ⟨gb101, 1, none⟩) (Kd.R_far (p := ⟨gb101, 0, none⟩) (Kd.R_types HO_103001.out BK101.out (by decide)) (fun _ hk => hk.2) (.string a0)) (fun _ hk => hk.2) (.slice Ao12 x103001_1.length co12)) (fun _ hk => hk.2) (.slice Ao13 x103002_1.length co13)) (fun _ hk => hk.1), by (with_reducible repeat (first | apply Kd.R_alloc | apply Kd.R_drewN | apply Kd.R_drew)); exact Kd.R_mono (Kd.R_far (p := ⟨gb101, 2, none⟩) (Kd.R_far (p := ⟨gb101, 1, none⟩) (Kd.R_far (p := ⟨gb101, 0, none⟩) (Kd.R_types HO_103002.out BK101.out (by decide)) (fun _ hk => hk.2) (.string a0)) (fun _ hk => hk.2) (.slice Ao12 x103001_1.length co12)) (fun _ hk => hk.2) (.slice Ao13 x103002_1.length co13)) (fun _ hk => hk.1), qb⟩
        rw [if_neg c8] at H
        obtain ⟨c8b0, c8b1⟩ := qd c8
        by_cases c14 : x103001_1.length < 17592186044416
        · rw [if_pos c14] at H
          have LMc14 := Aside0.mk c14
          clear c14
          obtain ⟨y105, hy105⟩ : ∃ y_ : List Int, y_ = (x103001_1 ++ [t103]) := ⟨_, rfl⟩
          replace H : (if x103002_1.length < 17592186044416 then (malthouseref01_Runes.l0 k1 a0 (wrap64 (x5_1 + t104)) a0 y105 (x103002_1 ++ [x5_1])) else (none)) = some (r1, r2, r3, r4) := by first | (rw [hy105]; with_reducible exact H) | (have H2_ := (Option.bind_some _ _).symm.trans H; rw [hy105]; with_reducible exact H2_) | (have H2_ := (Option.bind_some _ _).symm.trans H; with_reducible exact H2_) | with_reducible exact H | (rw [hy105]; exact H) | exact H
          have Ny105 := Aside0.mk hy105
          clear hy105
          by_cases c15 : x103002_1.length < 17592186044416
          · rw [if_pos c15] at H
            have LMc15 := Aside0.mk c15
            clear c15
            obtain ⟨y108, hy108⟩ : ∃ y_ : List Int, y_ = (x103002_1 ++ [x5_1]) := ⟨_, rfl⟩
            replace H : (malthouseref01_Runes.l0 k1 a0 (wrap64 (x5_1 + t104)) a0 y105 y108) = some (r1, r2, r3, r4) := by first | (rw [hy108]; with_reducible exact H) | (have H2_ := (Option.bind_some _ _).symm.trans H; rw [hy108]; with_reducible exact H2_) | (have H2_ := (Option.bind_some _ _).symm.trans H; with_reducible exact H2_) | with_reducible exact H | (rw [hy108]; exact H) | exact H
            have Ny108 := Aside0.mk hy108
            clear hy108
            have H' := Aside0.mk H
            clear H
            go_wp2_with (first | ((with_reducible refine gate_callee (f := 150) rfl ?_); refine goesL_ (some 17) rfl rfl Tryd.func150 (by kernel_rfl) rfl #[.string a0, .int .i64 x5_1] rfl qm ?_; (with_reducible refine (malthouseref01_Rune.calls k1 a0 x5_1 t103 t104 _ A7.out).mono ?_); rintro e w' ⟨rfl, ⟨nd, rfl⟩⟩; refine ⟨_, rfl, ?_⟩; (try (rw [drewN_self wr]; generalize hq_ : World.drewN wr _ = wr; have n0_ : Aside0 (Kd.R (Kd.int .i64) 3 wr w.heap.size (fun k_ => some k_ ≠ (u103002 : Value).ownBlock) u103001 x103001_1) := ⟨by rw [← hq_]; exact (by (with_reducible repeat (first | apply Kd.R_alloc | apply Kd.R_drewN | apply Kd.R_drew)); exact HO_103001.out)⟩; have n1_ : Aside0 (Kd.R (Kd.int .i64) 3 wr w.heap.size (fun k_ => some k_ ≠ (u103001 : Value).ownBlock) u103002 x103002_1) := ⟨by rw [← hq_]; exact (by (with_reducible repeat (first | apply Kd.R_alloc | apply Kd.R_drewN | apply Kd.R_drew)); exact HO_103002.out)⟩; have n2_ : Aside0 (wr.heap[gb101]? = some (.cells #[.string x102000_1, .slice none 0 0, .slice none 0 0] 171 (0, 0))) := ⟨by rw [← hq_]; exact (by (with_reducible repeat (first | refine blk_drewN ?_ _ | refine blk_drew ?_ | refine blk_alloc ?_ _)); exact BK101.out)⟩; have n3_ : Aside0 (wr.heap[gb102]? = some (.cells #[.string a0, u103001, u103002] 171 (0, 0))) := ⟨by rw [← hq_]; exact (by (with_reducible repeat (first | refine blk_drewN ?_ _ | refine blk_drew ?_ | refine blk_alloc ?_ _)); exact BK102.out)⟩; have n4_ : Aside0 (Below w.heap.size w wr) := ⟨by rw [← hq_]; exact qb⟩; clear HO_103001 HO_103002 BK101 BK102 HB hq_; have HO_103001 := n0_; have HO_103002 := n1_; have BK101 := n2_; have BK102 := n3_; have HB := n4_; clear n0_ n1_ n2_ n3_ n4_)); have hnb16 := NB102_101.out; have hnc16 := NB101_102.out; obtain ⟨_, _, _, _, _, _⟩ := q3 BK102.out) | ((with_reducible refine gate_builtin (b := .append) (xs := #[.tmp 24, .tmp 26]) rfl ?_); at_builtin; refine Kd.R_append (Kd.int .i64) (w0 := w) w.heap.size rfl (.tmp 24) (.tmp 26) 169 3 (.int .i64 0) 8 rfl Tryd.underlying169 info3 rfl (by decide) (by omega) u103001 x103001_1 t103 [.int .i64 t103] (fun k_ => some k_ ≠ (u103002 : Value).ownBlock) (fun _ => False) rfl rfl ?aP (fun _ hk => hk.elim) ?aF ?aO ?aB ?aS ?aL ?_; (case aP => exact rfl); (case aB => exact qb); (case aF => exact (fun k_ hk => Kd.fresh' (Kd.R_lt (by (with_reducible repeat (first | apply Kd.R_alloc | apply Kd.R_drewN | apply Kd.R_drew)); exact HO_103002.out)) k_ hk)); (case aO => exact (by (with_reducible repeat (first | apply Kd.R_alloc | apply Kd.R_drewN | apply Kd.R_drew)); exact HO_103001.out)); (case aS => exact (below_size qb)); (case aL => have := LMc14.out; omega); intro v106 w18 ho hb hg hat; rw [← Ny105.out] at ho; have n0_ := Aside0.mk (Kd.R_after (ok := (fun _ => True)) (by (with_reducible repeat (first | apply Kd.R_alloc | apply Kd.R_drewN | apply Kd.R_drew)); exact Kd.R_mono HO_103002.out (fun _ hk => ⟨trivial, hk⟩)) hg hat); have n1_ := Aside0.mk (blk_grown (g := gb101) (o := .cells #[.string x102000_1, .slice none 0 0, .slice none 0 0] 171 (0, 0)) (by (with_reducible repeat (first | refine blk_drewN ?_ _ | refine blk_drew ?_ | refine blk_alloc ?_ _)); exact BK101.out) hg (Kd.R_ne HO_103001.out BK101.out (by decide))); have n2_ := Aside0.mk (blk_grown (g := gb102) (o := .cells #[.string a0, u103001, u103002] 171 (0, 0)) (by (with_reducible repeat (first | refine blk_drewN ?_ _ | refine blk_drew ?_ | refine blk_alloc ?_ _)); exact BK102.out) hg (Kd.R_ne HO_103001.out BK102.out (by decide))); have n3_ := Aside0.mk (hb); have n4_ := Aside0.mk (ho); clear HO_103002; clear BK101; clear BK102; clear HB; clear HO_103001; have HO_103002 := n0_; have BK101 := n1_; have BK102 := n2_; have HB := n3_; have HO107 := n4_; clear n0_ n1_ n2_ n3_ n4_; clear ho hb hg hat; obtain ⟨Ao19, co19, eo19⟩ := Kd.R_slice HO107.out; subst eo19; obtain ⟨_, _, _, _, _, _⟩ := q3 BK102.out) | ((with_reducible refine gate_builtin (b := .append) (xs := #[.tmp 30, .tmp 32]) rfl ?_); at_builtin; refine Kd.R_append (Kd.int .i64) (w0 := w) w.heap.size rfl (.tmp 30) (.tmp 32) 169 3 (.int .i64 0) 8 rfl Tryd.underlying169 info3 rfl (by decide) (by omega) u103002 x103002_1 x5_1 [.int .i64 x5_1] (fun k_ => some k_ ≠ (.slice Ao19 y105.length co19 : Value).ownBlock) (fun _ => False) rfl (by first | (go_simp; done) | (go_simp; rfl)) ?aP (fun _ hk => hk.elim) ?aF ?aO ?aB ?aS ?aL ?_; (case aP => exact rfl); (case aB => exact qb); (case aF => exact (fun k_ hk => Kd.fresh' (Kd.R_lt (by (with_reducible repeat (first | apply Kd.R_alloc | apply Kd.R_drewN | apply Kd.R_drew)); exact (Kd.R_mono (Kd.R_far (p := ⟨gb102, 1, none⟩) (Kd.R_types HO107.out BK102.out (by decide)) (fun _ hk => hk.2) (.slice Ao19 y105.length co19)) (fun _ h_ => h_.1)))) k_ hk)); (case aO => exact (by (with_reducible repeat (first | apply Kd.R_alloc | apply Kd.R_drewN | apply Kd.R_drew)); exact Kd.R_mono (Kd.R_far (p := ⟨gb102, 1, none⟩) (Kd.R_types HO_103002.out BK102.out (by decide)) (fun _ hk => hk.2) (.slice Ao19 y105.length co19)) (fun _ hk => hk.1.2))); (case aS => exact (below_size qb)); (case aL => have := LMc15.out; omega); intro v109 w21 ho hb hg hat; rw [← Ny108.out] at ho; have n0_ := Aside0.mk (blk_grown (g := gb101) (o := .cells #[.string x102000_1, .slice none 0 0, .slice none 0 0] 171 (0, 0)) (by (with_reducible repeat (first | refine blk_drewN ?_ _ | refine blk_drew ?_ | refine blk_alloc ?_ _)); refine blk_far ?_ NB101_102.out _; (with_reducible repeat (first | refine blk_drewN ?_ _ | refine blk_drew ?_ | refine blk_alloc ?_ _)); exact BK101.out) hg (Kd.R_ne HO_103002.out BK101.out (by decide))); have n1_ := Aside0.mk (blk_grown (g := gb102) (o := .cells #[.string a0, .slice Ao19 y105.length co19, u103002] 171 (0, 0)) qy102 hg (Kd.R_ne HO_103002.out BK102.out (by decide))); have n2_ := Aside0.mk (Kd.R_after (ok := (fun _ => True)) (by (with_reducible repeat (first | apply Kd.R_alloc | apply Kd.R_drewN | apply Kd.R_drew)); exact Kd.R_mono (Kd.R_far (p := ⟨gb102, 1, none⟩) (Kd.R_types HO107.out BK102.out (by decide)) (fun _ hk => hk.2) (.slice Ao19 y105.length co19)) (fun _ hk => ⟨trivial, hk.1⟩)) hg hat); have n3_ := Aside0.mk (hb); have n4_ := Aside0.mk (ho); clear BK101; clear BK102; clear HO107; clear HB; clear HO_103002; have BK101 := n0_; have BK102 := n1_; have HO107 := n2_; have HB := n3_; have HO110 := n4_; clear n0_ n1_ n2_ n3_ n4_; clear ho hb hg hat; obtain ⟨Ao22, co22, eo22⟩ := Kd.R_slice HO110.out; subst eo22; obtain ⟨_, _, _, _, _, _⟩ := q3 BK102.out))
            go_roundg k1
            case measure => have := HK1.out; omega
            case rel => exact ⟨(wrap64 (x5_1 + t104)), (x102000_1), (y105), (y108), (.slice Ao19 y105.length co19), (.slice Ao22 y108.length co22), qv, H', ⟨by have := HK1.out; omega⟩, ⟨by (with_reducible repeat (first | apply Kd.R_alloc | apply Kd.R_drewN | apply Kd.R_drew)); exact Kd.R_mono (Kd.R_far (p := ⟨gb102, 2, none⟩) (Kd.R_types HO107.out BK102.out (by decide)) (fun _ hk => hk.2) (.slice Ao22 y108.length co22)) (fun _ hk => hk.1.2)⟩, ⟨by (with_reducible repeat (first | apply Kd.R_alloc | apply Kd.R_drewN | apply Kd.R_drew)); exact Kd.R_mono (Kd.R_far (p := ⟨gb102, 2, none⟩) (Kd.R_types HO110.out BK102.out (by decide)) (fun _ hk => hk.2) (.slice Ao22 y108.length co22)) (fun _ hk => hk.1)⟩, ⟨by (with_reducible repeat (first | refine blk_drewN ?_ _ | refine blk_drew ?_ | refine blk_alloc ?_ _)); refine blk_far ?_ NB101_102.out _; (with_reducible repeat (first | refine blk_drewN ?_ _ | refine blk_drew ?_ | refine blk_alloc ?_ _)); exact BK101.out⟩, qY102, qB⟩
          rw [if_neg c15] at H
          exact absurd H (by simp)
        rw [if_neg c14] at H
        exact absurd H (by simp)
      rw [if_neg c6] at H
      have c6b0 : decide (x5_1 < (a0.size : Int)) = false := decide_eq_false c6
      clear c6
      by_cases c24 : x103002_1.length < 17592186044416
      · rw [if_pos c24] at H
        have LMc24 := Aside0.mk c24
        clear c24
        obtain ⟨y111, hy111⟩ : ∃ y_ : List Int, y_ = (x103002_1 ++ [(a0.size : Int)]) := ⟨_, rfl⟩
        replace H : (some (a0, x103001_1, y111, true)) = some (r1, r2, r3, r4) := by first | (rw [hy111]; with_reducible exact H) | (have H2_ := (Option.bind_some _ _).symm.trans H; rw [hy111]; with_reducible exact H2_) | (have H2_ := (Option.bind_some _ _).symm.trans H; with_reducible exact H2_) | with_reducible exact H | (rw [hy111]; exact H) | exact H
        have Ny111 := Aside0.mk hy111
        clear hy111
        simp only [Option.some.injEq, Prod.mk.injEq] at H
        obtain ⟨rfl, rfl, rfl, rfl⟩ := H
        have hnb25 := NB102_101.out
        have hnc25 := NB101_102.out
        obtain ⟨_, _, _, _, _, _⟩ := q3 BK102.out
        go_wp2_with (first | ((with_reducible refine gate_builtin (b := .append) (xs := #[.tmp 39, .tmp 42]) rfl ?_); at_builtin; refine Kd.R_append (Kd.int .i64) (w0 := w) w.heap.size rfl (.tmp 39) (.tmp 42) 169 3 (.int .i64 0) 8 rfl Tryd.underlying169 info3 rfl (by decide) (by omega) u103002 x103002_1 (a0.size : Int) [.int .i64 (a0.size : Int)] (fun k_ => some k_ ≠ (u103001 : Value).ownBlock) (fun _ => False) rfl rfl ?aP (fun _ hk => hk.elim) ?aF ?aO ?aB ?aS ?aL ?_; (case aP => exact rfl); (case aB => exact qb); (case aF => exact (fun k_ hk => Kd.fresh' (Kd.R_lt (by (with_reducible repeat (first | apply Kd.R_alloc | apply Kd.R_drewN | apply Kd.R_drew)); exact HO_103001.out)) k_ hk)); (case aO => exact (by (with_reducible repeat (first | apply Kd.R_alloc | apply Kd.R_drewN | apply Kd.R_drew)); exact HO_103002.out)); (case aS => exact (below_size qb)); (case aL => have := LMc24.out; omega); intro v112 w27 ho hb hg hat; rw [← Ny111.out] at ho; have n0_ := Aside0.mk (Kd.R_after (ok := (fun _ => True)) (by (with_reducible repeat (first | apply Kd.R_alloc | apply Kd.R_drewN | apply Kd.R_drew)); exact Kd.R_mono HO_103001.out (fun _ hk => ⟨trivial, hk⟩)) hg hat); have n1_ := Aside0.mk (blk_grown (g := gb101) (o := .cells #[.string x102000_1, .slice none 0 0, .slice none 0 0] 171 (0, 0)) (by (with_reducible repeat (first | refine blk_drewN ?_ _ | refine blk_drew ?_ | refine blk_alloc ?_ _)); exact BK101.out) hg (Kd.R_ne HO_103002.out BK101.out (by decide))); have n2_ := Aside0.mk (blk_grown (g := gb102) (o := .cells #[.string a0, u103001, u103002] 171 (0, 0)) (by (with_reducible repeat (first | refine blk_drewN ?_ _ | refine blk_drew ?_ | refine blk_alloc ?_ _)); exact BK102.out) hg (Kd.R_ne HO_103002.out BK102.out (by decide))); have n3_ := Aside0.mk (hb); have n4_ := Aside0.mk (ho); clear HO_103001; clear BK101; clear BK102; clear HB; clear HO_103002; have HO_103001 := n0_; have BK101 := n1_; have BK102 := n2_; have HB := n3_; have HO113 := n4_; clear n0_ n1_ n2_ n3_ n4_; clear ho hb hg hat; obtain ⟨Ao28, co28, eo28⟩ := Kd.R_slice HO113.out; subst eo28; obtain ⟨_, _, _, _, _, _⟩ := q3 BK102.out; obtain ⟨_, _, _, _, _, _⟩ := q3 BK101.out; obtain ⟨Ao31, co31, eo31⟩ := Kd.R_slice HO_103001.out; subst eo31))
        refine bodyPost_ret (results_ct rfl _ _ gb101 171 #[.string a0, .slice Ao31 x103001_1.length co31, .slice Ao28 y111.length co28] (0, 0) _ rfl (by (with_reducible repeat (first | refine blk_drewN ?_ _ | refine blk_drew ?_ | refine blk_alloc ?_ _)); refine blk_put (cs := #[.string a0, .slice Ao31 x103001_1.length co31, .slice none 0 0]) ?_ 2 _ rfl; (with_reducible repeat (first | refine blk_drewN ?_ _ | refine blk_drew ?_ | refine blk_alloc ?_ _)); refine blk_put (cs := #[.string a0, .slice none 0 0, .slice none 0 0]) ?_ 1 _ rfl; (with_reducible repeat (first | refine blk_drewN ?_ _ | refine blk_drew ?_ | refine blk_alloc ?_ _)); refine blk_put (cs := #[.string x102000_1, .slice none 0 0, .slice none 0 0]) ?_ 0 _ rfl; (with_reducible repeat (first | refine blk_drewN ?_ _ | refine blk_drew ?_ | refine blk_alloc ?_ _)); refine blk_far ?_ NB101_102.out _; (with_reducible repeat (first | refine blk_drewN ?_ _ | refine blk_drew ?_ | refine blk_alloc ?_ _)); exact BK101.out) Tryd.underlying171 rfl (by kernel_rfl)) rfl ?_
        exact ⟨_, _, by first | rfl | (simp [errW_none, errW_some] <;> rfl) | (simp [*, errW_none, errW_some] <;> rfl), by (with_reducible repeat (first | apply Kd.R_alloc | apply Kd.R_drewN | apply Kd.R_drew)); exact Kd.R_mono (Kd.R_far (p := ⟨gb101, 2, none⟩) (Kd.R_far (p := ⟨gb101, 1, none⟩) (Kd.R_far (p := ⟨gb101, 0, none⟩) (Kd.R_far (p := ⟨gb102, 2, none⟩) (Kd.R_types (Kd.R_types HO_103001.out BK102.out (by decide)) BK101.out (by decide)) (fun _ hk => hk.1.2) (.slice Ao28 y111.length co28)) (fun _ hk => hk.2) (.string a0)) (fun _ hk => hk.2) (.slice Ao31 x103001_1.length co31)) (fun _ hk => hk.2) (.slice Ao28 y111.length co28)) (fun _ hk => hk.1.1.2), by (with_reducible repeat (first | apply Kd.R_alloc | apply Kd.R_drewN | apply Kd.R_drew)); exact Kd.R_mono (Kd.R_far (p := ⟨gb101, 2, none⟩) (Kd.R_far (p := ⟨gb101, 1, none⟩) (Kd.R_far (p := ⟨gb101, 0, none⟩) (Kd.R_far (p := ⟨gb102, 2, none⟩) (Kd.R_types (Kd.R_types HO113.out BK102.out (by decide)) BK101.out (by decide)) (fun _ hk => hk.1.2) (.slice Ao28 y111.length co28)) (fun _ hk => hk.2) (.string a0)) (fun _ hk => hk.2) (.slice Ao31 x103001_1.length co31)) (fun _ hk => hk.2) (.slice Ao28 y111.length co28)) (fun _ hk => hk.1.1), qb⟩
      rw [if_neg c24] at H
      exact absurd H (by simp)
end Go.Proofs.YtiaccdaeomaogaaDoor.F
namespace Go.Proofs.YtiaccdaeomaogaaDoor.F
open Go.RowKit Go.Proofs.YtiaccdaeomaogaaDoorW.PrintWords Go.Proofs.YtiaccdaeomaogaaDoorW.PrintLast Go.Proofs.YtiaccdaeomaogaaDoorW.PrintMore
set_option linter.unusedVariables false
set_option linter.unusedSimpArgs false
def finR (x n least : Int) : Int × Int := if x < least then (0, 0) else if x > 1114111 then (0, 0) else if x ≥ 55296 then (if x ≤ 57343 then (0, 0) else (x, n)) else (x, n)
def docR (n b0 b1 b2 b3 : Nat) : Int × Int :=
  if b0 < 128 then ((b0 : Int), 1)
  else if 192 ≤ b0 ∧ b0 < 224 then (if n < 2 ∨ b1 < 128 ∨ 192 ≤ b1 then (0, 0) else finR (64 * ((b0 : Int) - 192) + b1 - 128) 2 128)
  else if 224 ≤ b0 ∧ b0 < 240 then (if n < 3 ∨ b1 < 128 ∨ 192 ≤ b1 ∨ b2 < 128 ∨ 192 ≤ b2 then (0, 0) else finR (64 * (64 * ((b0 : Int) - 224) + b1 - 128) + b2 - 128) 3 2048)
  else if 240 ≤ b0 ∧ b0 < 248 then (if n < 4 ∨ b1 < 128 ∨ 192 ≤ b1 ∨ b2 < 128 ∨ 192 ≤ b2 ∨ b3 < 128 ∨ 192 ≤ b3 then (0, 0) else finR (64 * (64 * (64 * ((b0 : Int) - 240) + b1 - 128) + b2 - 128) + b3 - 128) 4 65536)
  else (0, 0)
def libR (p : Nat × Nat) : Int × Int := if p = (65533, 1) then (0, 0) else ((p.1 : Int), (p.2 : Int))
set_option maxHeartbeats 4000000 in
theorem doc_lib (n b0 b1 b2 b3 : Nat) (h0 : b0 < 256) (h1 : b1 < 256) (h2 : b2 < 256) (h3 : b3 < 256) : docR n b0 b1 b2 b3 = libR (Lib.decodeN n b0 b1 b2 b3) := by
  by_cases c0 : b0 < 128
  · unfold docR Lib.decodeN libR
    rw [if_pos c0, if_pos c0, if_neg (by intro h; have := (Prod.mk.inj h).1; omega)]; rfl
  by_cases c1 : 192 ≤ b0 ∧ b0 < 224
  · unfold docR Lib.decodeN
    rw [if_neg c0, if_pos c1, if_neg c0]
    by_cases d : n < 2 ∨ b1 < 128 ∨ 192 ≤ b1
    · rw [if_pos d, if_neg (by omega), if_neg (by omega), if_neg (by omega)]; rfl
    · rw [if_neg d, if_pos (by omega)]
      unfold finR libR
      by_cases e : b0 % 32 * 64 + b1 % 64 ≥ 128
      · rw [if_pos e, if_neg (show ¬ 64 * ((b0 : Int) - 192) + b1 - 128 < 128 by omega), if_neg (show ¬ 64 * ((b0 : Int) - 192) + b1 - 128 > 1114111 by omega), if_neg (show ¬ 64 * ((b0 : Int) - 192) + b1 - 128 ≥ 55296 by omega), if_neg (by intro h; have := (Prod.mk.inj h).2; omega)]
        exact Prod.ext (by show (_ : Int) = ((_ : Nat) : Int); omega) rfl
      · rw [if_neg e, if_pos (show 64 * ((b0 : Int) - 192) + b1 - 128 < 128 by omega), if_pos rfl]
  by_cases c2 : 224 ≤ b0 ∧ b0 < 240
  · unfold docR Lib.decodeN
    rw [if_neg c0, if_neg c1, if_pos c2, if_neg c0, if_neg (show ¬ (b0 / 32 = 6 ∧ 1 < n ∧ b1 / 64 = 2) by omega)]
    by_cases d : n < 3 ∨ b1 < 128 ∨ 192 ≤ b1 ∨ b2 < 128 ∨ 192 ≤ b2
    · rw [if_pos d, if_neg (by omega), if_neg (by omega)]; rfl
    · rw [if_neg d, if_pos (by omega)]
      have ex : (64 * (64 * ((b0 : Int) - 224) + b1 - 128) + b2 - 128) = ((b0 % 16 * 4096 + b1 % 64 * 64 + b2 % 64 : Nat) : Int) := by omega
      rw [ex]
      generalize b0 % 16 * 4096 + b1 % 64 * 64 + b2 % 64 = v
      unfold finR libR
      by_cases e : v ≥ 2048 ∧ (v < 55296 ∨ 57344 ≤ v ∧ v ≤ 1114111)
      · rw [if_pos e, if_neg (show ¬ (v : Int) < 2048 by omega), if_neg (show ¬ (v : Int) > 1114111 by omega), if_neg (show ¬ ((v, _) : Nat × Nat) = (65533, 1) from fun h => by have := (Prod.mk.inj h).2; omega)]
        by_cases g : (v : Int) ≥ 55296
        · rw [if_pos g, if_neg (by omega)]; rfl
        · rw [if_neg g]; rfl
      · rw [if_neg e, if_pos (show ((65533, 1) : Nat × Nat) = (65533, 1) from rfl)]
        by_cases g1 : (v : Int) < 2048
        · rw [if_pos g1]
        by_cases g2 : (v : Int) > 1114111
        · rw [if_neg g1, if_pos g2]
        · rw [if_neg g1, if_neg g2, if_pos (by omega), if_pos (by omega)]
  by_cases c3 : 240 ≤ b0 ∧ b0 < 248
  · unfold docR Lib.decodeN
    rw [if_neg c0, if_neg c1, if_neg c2, if_pos c3, if_neg c0, if_neg (show ¬ (b0 / 32 = 6 ∧ 1 < n ∧ b1 / 64 = 2) by omega), if_neg (show ¬ (b0 / 16 = 14 ∧ (1 < n ∧ b1 / 64 = 2) ∧ 2 < n ∧ b2 / 64 = 2) by omega)]
    by_cases d : n < 4 ∨ b1 < 128 ∨ 192 ≤ b1 ∨ b2 < 128 ∨ 192 ≤ b2 ∨ b3 < 128 ∨ 192 ≤ b3
    · rw [if_pos d, if_neg (by omega)]; rfl
    · rw [if_neg d, if_pos (by omega)]
      have ex : (64 * (64 * (64 * ((b0 : Int) - 240) + b1 - 128) + b2 - 128) + b3 - 128) = ((b0 % 8 * 262144 + b1 % 64 * 4096 + b2 % 64 * 64 + b3 % 64 : Nat) : Int) := by omega
      rw [ex]
      generalize b0 % 8 * 262144 + b1 % 64 * 4096 + b2 % 64 * 64 + b3 % 64 = v
      unfold finR libR
      by_cases e : v ≥ 65536 ∧ (v < 55296 ∨ 57344 ≤ v ∧ v ≤ 1114111)
      · rw [if_pos e, if_neg (show ¬ (v : Int) < 65536 by omega), if_neg (show ¬ (v : Int) > 1114111 by omega), if_neg (show ¬ ((v, _) : Nat × Nat) = (65533, 1) from fun h => by have := (Prod.mk.inj h).2; omega)]
        by_cases g : (v : Int) ≥ 55296
        · rw [if_pos g, if_neg (by omega)]; rfl
        · rw [if_neg g]; rfl
      · rw [if_neg e, if_pos (show ((65533, 1) : Nat × Nat) = (65533, 1) from rfl)]
        by_cases g1 : (v : Int) < 65536
        · rw [if_pos g1]
        by_cases g2 : (v : Int) > 1114111
        · rw [if_neg g1, if_pos g2]
        · rw [if_neg g1, if_neg g2, if_pos (by omega), if_pos (by omega)]
  · unfold docR Lib.decodeN
    rw [if_neg c0, if_neg c1, if_neg c2, if_neg c3, if_neg c0, if_neg (by omega), if_neg (by omega), if_neg (by omega)]; rfl
theorem bt_get (s : ByteArray) (j : Nat) (h : j < s.size) : bt s (j : Int) = ((s.get! j).toNat : Int) := by
  unfold bt
  have h' : ((j : Int)).toNat < s.size := by omega
  rw [dif_pos h']
  have : s.get! j = s[j] := by
    cases s; rename_i d
    show d[j]! = d[j]
    exact getElem!_pos d j h
  rw [this]; simp
theorem wr {x : Int} (h : -9223372036854775808 ≤ x ∧ x ≤ 9223372036854775807) : wrap64 x = x := by unfold wrap64; omega
set_option maxHeartbeats 4000000 in
theorem Rune_tot (s : ByteArray) (i : Nat) (hi : i < s.size) (hs : s.size < 9223372036854775000) : Tot (fun k => malthouseref01_Rune.f k s (i : Int)) (libR (Utf8.decode s i)) := by
  rw [Lib.decode_at, ← doc_lib _ _ _ _ _ (s.get! i).toNat_lt (s.get! (i + 1)).toNat_lt (s.get! (i + 2)).toNat_lt (s.get! (i + 3)).toNat_lt]
  have e0 := bt_get s i hi
  have B : ∀ j : Nat, i + j < s.size → bt s ((i : Int) + (j : Int)) = ((s.get! (i + j)).toNat : Int) := fun j h => bt_get s (i + j) h
  obtain ⟨b0, h0⟩ : ∃ b, (s.get! i).toNat = b := ⟨_, rfl⟩
  obtain ⟨b1, h1⟩ : ∃ b, (s.get! (i + 1)).toNat = b := ⟨_, rfl⟩
  obtain ⟨b2, h2⟩ : ∃ b, (s.get! (i + 2)).toNat = b := ⟨_, rfl⟩
  obtain ⟨b3, h3⟩ : ∃ b, (s.get! (i + 3)).toNat = b := ⟨_, rfl⟩
  have l0 := (s.get! i).toNat_lt
  have l1 := (s.get! (i + 1)).toNat_lt
  have l2 := (s.get! (i + 2)).toNat_lt
  have l3 := (s.get! (i + 3)).toNat_lt
  rw [h0] at e0 l0
  have E0 := Aside0.mk e0
  clear e0
  have B1 : Aside0 (i + 1 < s.size → bt s ((i : Int) + 1) = (b1 : Int)) := ⟨fun h => by rw [← h1]; exact B 1 h⟩
  have B2 : Aside0 (i + 2 < s.size → bt s ((i : Int) + 2) = (b2 : Int)) := ⟨fun h => by rw [← h2]; exact B 2 h⟩
  have B3 : Aside0 (i + 3 < s.size → bt s ((i : Int) + 3) = (b3 : Int)) := ⟨fun h => by rw [← h3]; exact B 3 h⟩
  rw [h1] at l1
  rw [h2] at l2
  rw [h3] at l3
  rw [h0, h1, h2, h3]
  clear B h0 h1 h2 h3
  -- the loop's end, and a round
  have E : ∀ x6 x7 x8 : Int, Tot (fun k => malthouseref01_Rune.l0 k s (i : Int) x6 x7 x8 x7) (finR x6 x7 x8) := fun x6 x7 x8 => by
    refine Tot.succ ?_
    simp only [malthouseref01_Rune.l0, if_neg (show ¬ x7 < x7 by omega)]
    unfold finR
    by_cases a : x6 < x8
    · simp only [if_pos a]; exact Tot.const _
    by_cases b : x6 > 1114111
    · simp only [if_neg a, if_pos b]; exact Tot.const _
    by_cases c : x6 ≥ 55296
    · by_cases d : x6 ≤ 57343
      · simp only [if_neg a, if_neg b, if_pos c, if_pos d]; exact Tot.const _
      · simp only [if_neg a, if_neg b, if_pos c, if_neg d]; exact Tot.const _
    · simp only [if_neg a, if_neg b, if_neg c]; exact Tot.const _
  have R : ∀ (x6 x7 x8 : Int) (x9 : Nat) (c : Nat) (v : Int × Int), (x9 : Int) < x7 → i + x9 < s.size → 0 ≤ x6 → x6 < 100000000 → Aside0 (bt s ((i : Int) + (x9 : Int)) = (c : Int)) → c < 256 → x9 < 5 → (¬ (c < 128 ∨ 192 ≤ c) → Tot (fun k => malthouseref01_Rune.l0 k s (i : Int) (64 * x6 + c - 128) x7 x8 ((x9 : Int) + 1)) v) →
      Tot (fun k => malthouseref01_Rune.l0 k s (i : Int) x6 x7 x8 (x9 : Int)) (if c < 128 ∨ 192 ≤ c then (0, 0) else v) := fun x6 x7 x8 x9 c v g1 g2 g3 g3' g4 g5 g6 g7 => by
    refine Tot.succ ?_
    have e : Aside0 (wrap64 ((i : Int) + (x9 : Int)) = (i : Int) + (x9 : Int)) := ⟨wr (by omega)⟩
    have ec : Aside0 (wrap64 (c : Int) = (c : Int)) := ⟨wr (by omega)⟩
    simp only [malthouseref01_Rune.l0, if_pos g1, e.out, if_pos (show 0 ≤ (i : Int) + (x9 : Int) by omega), if_pos (show (i : Int) + (x9 : Int) < (s.size : Int) by omega), g4.out, ec.out]
    by_cases a : c < 128
    · rw [if_pos (Or.inl a)]; simp only [if_pos (show (c : Int) < 128 by omega)]; exact Tot.const _
    by_cases b : 192 ≤ c
    · rw [if_pos (Or.inr b)]; simp only [if_neg (show ¬ (c : Int) < 128 by omega), if_pos (show (c : Int) ≥ 192 by omega)]; exact Tot.const _
    · rw [if_neg (by omega)]
      simp only [if_neg (show ¬ (c : Int) < 128 by omega), if_neg (show ¬ (c : Int) ≥ 192 by omega), wr (show -9223372036854775808 ≤ 64 * x6 ∧ 64 * x6 ≤ 9223372036854775807 by omega), wr (show -9223372036854775808 ≤ 64 * x6 + (c : Int) ∧ 64 * x6 + (c : Int) ≤ 9223372036854775807 by omega), wr (show -9223372036854775808 ≤ 64 * x6 + (c : Int) - 128 ∧ 64 * x6 + (c : Int) - 128 ≤ 9223372036854775807 by omega), wr (show -9223372036854775808 ≤ (x9 : Int) + 1 ∧ (x9 : Int) + 1 ≤ 9223372036854775807 by omega)]
      exact g7 (by omega)
  have eb : Aside0 (wrap64 (b0 : Int) = (b0 : Int)) := ⟨wr (by omega)⟩
  have es : Aside0 (wrap64 ((s.size : Int) - (i : Int)) = (s.size : Int) - (i : Int)) := ⟨wr (by omega)⟩
  unfold malthouseref01_Rune.f docR
  simp only [if_pos (show 0 ≤ (i : Int) by omega), if_pos (show (i : Int) < (s.size : Int) by omega), E0.out, eb.out]
  by_cases c0 : b0 < 128
  · simp only [if_pos c0, if_pos (show (b0 : Int) < 128 by omega)]; exact Tot.const _
  simp only [if_neg c0, if_neg (show ¬ (b0 : Int) < 128 by omega)]
  by_cases c1 : 192 ≤ b0 ∧ b0 < 224
  · simp only [if_pos c1, if_pos (show (b0 : Int) ≥ 192 by omega), show decide ((b0 : Int) < 224) = true from decide_eq_true (by omega)]
    refine Tot.succ ?_
    simp only [malthouseref01_Rune.j0, if_true, wr (show -9223372036854775808 ≤ (b0 : Int) - 192 ∧ (b0 : Int) - 192 ≤ 9223372036854775807 by omega)]
    refine Tot.succ ?_
    simp only [malthouseref01_Rune.j2, es.out]
    by_cases hn : s.size - i < 2
    · rw [if_pos (Or.inl hn)]; simp only [if_pos (show (2 : Int) > (s.size : Int) - (i : Int) by omega)]; exact Tot.const _
    simp only [if_neg (show ¬ (2 : Int) > (s.size : Int) - (i : Int) by omega)]
    have T := R ((b0 : Int) - 192) 2 128 1 b1 _ (by omega) (by omega) (by omega) (by omega) ⟨B1.out (by omega)⟩ l1 (by omega) (fun _ => E _ 2 128)
    have ev : (if b1 < 128 ∨ 192 ≤ b1 then ((0 : Int), (0 : Int)) else finR (64 * ((b0 : Int) - 192) + b1 - 128) 2 128) = (if s.size - i < 2 ∨ b1 < 128 ∨ 192 ≤ b1 then (0, 0) else finR (64 * ((b0 : Int) - 192) + b1 - 128) 2 128) := by
      by_cases a1 : b1 < 128 ∨ 192 ≤ b1
      · rw [if_pos a1, if_pos (by omega)]
      · rw [if_neg a1, if_neg (by omega)]
    rw [ev] at T; exact T
  by_cases c2 : 224 ≤ b0 ∧ b0 < 240
  · simp only [if_neg c1, if_pos c2, if_pos (show (b0 : Int) ≥ 192 by omega), show decide ((b0 : Int) < 224) = false from decide_eq_false (by omega)]
    refine Tot.succ ?_
    simp only [malthouseref01_Rune.j0, if_neg (show ¬ (false = true) by decide), if_pos (show (b0 : Int) ≥ 224 by omega), show decide ((b0 : Int) < 240) = true from decide_eq_true (by omega)]
    refine Tot.succ ?_
    simp only [malthouseref01_Rune.j1, if_true, wr (show -9223372036854775808 ≤ (b0 : Int) - 224 ∧ (b0 : Int) - 224 ≤ 9223372036854775807 by omega)]
    refine Tot.succ ?_
    simp only [malthouseref01_Rune.j2, es.out]
    by_cases hn : s.size - i < 3
    · rw [if_pos (Or.inl hn)]; simp only [if_pos (show (3 : Int) > (s.size : Int) - (i : Int) by omega)]; exact Tot.const _
    simp only [if_neg (show ¬ (3 : Int) > (s.size : Int) - (i : Int) by omega)]
    have T := R ((b0 : Int) - 224) 3 2048 1 b1 (if b2 < 128 ∨ 192 ≤ b2 then (0, 0) else finR (64 * (64 * ((b0 : Int) - 224) + b1 - 128) + b2 - 128) 3 2048) (by omega) (by omega) (by omega) (by omega) ⟨B1.out (by omega)⟩ l1 (by omega) (fun hb => R _ 3 2048 2 b2 _ (by omega) (by omega) (by omega) (by omega) ⟨B2.out (by omega)⟩ l2 (by omega) (fun _ => E _ 3 2048))
    have ev : (if b1 < 128 ∨ 192 ≤ b1 then ((0 : Int), (0 : Int)) else (if b2 < 128 ∨ 192 ≤ b2 then (0, 0) else finR (64 * (64 * ((b0 : Int) - 224) + b1 - 128) + b2 - 128) 3 2048)) = (if s.size - i < 3 ∨ b1 < 128 ∨ 192 ≤ b1 ∨ b2 < 128 ∨ 192 ≤ b2 then (0, 0) else finR (64 * (64 * ((b0 : Int) - 224) + b1 - 128) + b2 - 128) 3 2048) := by
      by_cases a1 : b1 < 128 ∨ 192 ≤ b1
      · rw [if_pos a1, if_pos (by omega)]
      by_cases a2 : b2 < 128 ∨ 192 ≤ b2
      · rw [if_neg a1, if_pos a2, if_pos (by omega)]
      · rw [if_neg a1, if_neg a2, if_neg (by omega)]
    rw [ev] at T; exact T
  by_cases c3 : 240 ≤ b0 ∧ b0 < 248
  · simp only [if_neg c1, if_neg c2, if_pos c3, if_pos (show (b0 : Int) ≥ 192 by omega), show decide ((b0 : Int) < 224) = false from decide_eq_false (by omega)]
    refine Tot.succ ?_
    simp only [malthouseref01_Rune.j0, if_neg (show ¬ (false = true) by decide), if_pos (show (b0 : Int) ≥ 224 by omega), show decide ((b0 : Int) < 240) = false from decide_eq_false (by omega)]
    refine Tot.succ ?_
    simp only [malthouseref01_Rune.j1, if_neg (show ¬ (false = true) by decide), if_pos (show (b0 : Int) ≥ 240 by omega), if_pos (show (b0 : Int) < 248 by omega), wr (show -9223372036854775808 ≤ (b0 : Int) - 240 ∧ (b0 : Int) - 240 ≤ 9223372036854775807 by omega)]
    refine Tot.succ ?_
    simp only [malthouseref01_Rune.j2, es.out]
    by_cases hn : s.size - i < 4
    · rw [if_pos (Or.inl hn)]; simp only [if_pos (show (4 : Int) > (s.size : Int) - (i : Int) by omega)]; exact Tot.const _
    simp only [if_neg (show ¬ (4 : Int) > (s.size : Int) - (i : Int) by omega)]
    have T := R ((b0 : Int) - 240) 4 65536 1 b1 (if b2 < 128 ∨ 192 ≤ b2 then (0, 0) else (if b3 < 128 ∨ 192 ≤ b3 then (0, 0) else finR (64 * (64 * (64 * ((b0 : Int) - 240) + b1 - 128) + b2 - 128) + b3 - 128) 4 65536)) (by omega) (by omega) (by omega) (by omega) ⟨B1.out (by omega)⟩ l1 (by omega) (fun hb => R _ 4 65536 2 b2 _ (by omega) (by omega) (by omega) (by omega) ⟨B2.out (by omega)⟩ l2 (by omega) (fun hb2 => R _ 4 65536 3 b3 _ (by omega) (by omega) (by omega) (by omega) ⟨B3.out (by omega)⟩ l3 (by omega) (fun _ => E _ 4 65536)))
    have ev : (if b1 < 128 ∨ 192 ≤ b1 then ((0 : Int), (0 : Int)) else (if b2 < 128 ∨ 192 ≤ b2 then (0, 0) else (if b3 < 128 ∨ 192 ≤ b3 then (0, 0) else finR (64 * (64 * (64 * ((b0 : Int) - 240) + b1 - 128) + b2 - 128) + b3 - 128) 4 65536))) = (if s.size - i < 4 ∨ b1 < 128 ∨ 192 ≤ b1 ∨ b2 < 128 ∨ 192 ≤ b2 ∨ b3 < 128 ∨ 192 ≤ b3 then (0, 0) else finR (64 * (64 * (64 * ((b0 : Int) - 240) + b1 - 128) + b2 - 128) + b3 - 128) 4 65536) := by
      by_cases a1 : b1 < 128 ∨ 192 ≤ b1
      · rw [if_pos a1, if_pos (by omega)]
      by_cases a2 : b2 < 128 ∨ 192 ≤ b2
      · rw [if_neg a1, if_pos a2, if_pos (by omega)]
      by_cases a3 : b3 < 128 ∨ 192 ≤ b3
      · rw [if_neg a1, if_neg a2, if_pos a3, if_pos (by omega)]
      · rw [if_neg a1, if_neg a2, if_neg a3, if_neg (by omega)]
    rw [ev] at T; exact T
  · simp only [if_neg c1, if_neg c2, if_neg c3]
    by_cases g : (b0 : Int) ≥ 192
    · simp only [if_pos g, show decide ((b0 : Int) < 224) = false from decide_eq_false (by omega)]
      refine Tot.succ ?_
      simp only [malthouseref01_Rune.j0, if_neg (show ¬ (false = true) by decide), if_pos (show (b0 : Int) ≥ 224 by omega), show decide ((b0 : Int) < 240) = false from decide_eq_false (by omega)]
      refine Tot.succ ?_
      simp only [malthouseref01_Rune.j1, if_neg (show ¬ (false = true) by decide), if_pos (show (b0 : Int) ≥ 240 by omega), if_neg (show ¬ (b0 : Int) < 248 by omega)]
      exact Tot.const _
    · simp only [if_neg g]
      refine Tot.succ ?_
      simp only [malthouseref01_Rune.j0, if_neg (show ¬ (false = true) by decide), if_neg (show ¬ (b0 : Int) ≥ 224 by omega)]
      refine Tot.succ ?_
      simp only [malthouseref01_Rune.j1, if_neg (show ¬ (false = true) by decide), if_neg (show ¬ (b0 : Int) ≥ 240 by omega)]
      exact Tot.const _
end Go.Proofs.YtiaccdaeomaogaaDoor.F
