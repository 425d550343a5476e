/- Texts of one claim, slimmed and merged by slim.py. -/
import Derived.OwnWalk
import Derived.Test.YtiaccdaeomaogaaDoorR4
import Derived.Test.YtiaccdaeomaogaaDoorR7
import Derived.Test.YtiaccdaeomaogaaDoorR12
import Derived.Test.YtiaccdaeomaogaaDoorR13
import Derived.Test.YtiaccdaeomaogaaDoorR14
import Derived.Test.YtiaccdaeomaogaaDoorR15
import Derived.Test.YtiaccdaeomaogaaDoorR16
import Derived.Test.YtiaccdaeomaogaaDoorR18
namespace Go.Proofs.YtiaccdaeomaogaaDoor.F
open Go.RowKit Go.Proofs.YtiaccdaeomaogaaDoorW.PrintWords Go.Proofs.YtiaccdaeomaogaaDoorW.PrintLast Go.Proofs.YtiaccdaeomaogaaDoorW.PrintMore
attribute [local go_sem] max2_int min2_int max_two min_two max_three min_three max_four min_four   -- for this text's walks alone
set_option linter.unusedVariables false
set_option linter.unusedSimpArgs false
def rung_Run.f (k : Nat) (l0 : List (S43)) (l1 : List Bool) (l2 : List (S69)) : Option (List Bool × List ByteArray × List ByteArray) :=
  (rung_Bits.f k l0).bind fun nm => (slices_Clone_bool_bool.f l1).bind fun bs => if l1.length = nm.length then ((rung_checkN.f k l0 [] []).bind fun e => if e = 0 then rungsF k nm l2 l0 (bs, [], []) else some ([], [], [])) else some ([], [], [])
theorem rung_Run.mono : ∀ a0 a1 a2 k, LeO (rung_Run.f k a0 a1 a2) (rung_Run.f (k + 1) a0 a1 a2) := by
  intro a0 a1 a2 k
  unfold rung_Run.f
  repeat' first
    | exact LeO.refl _
    | exact rung_Bits.mono _ _
    | exact rung_checkN.mono _ _ _ _
    | exact rungsF_mono _ _ _ _ _
    | refine LeO.ite ?_ ?_
    | refine LeO.bind ?_ (fun _ => ?_)
theorem clone_f {l r : List Bool} (h : slices_Clone_bool_bool.f l = some r) : r = l := by
 unfold slices_Clone_bool_bool.f at h
 split at h
 ·exact (Option.some.inj h).symm
 cases h
def Rows2 (W w : World) (AN : Option Addr) (n cN : Nat) (u u' : Value) (hs bs : List ByteArray) : Prop :=
  Kd.R Kd.string 9 w W.heap.size (fun k => some k ≠ (Value.slice AN n cN).ownBlock ∧ some k ≠ u'.ownBlock) u hs ∧ Kd.R Kd.string 9 w W.heap.size (fun k => some k ≠ (Value.slice AN n cN).ownBlock ∧ some k ≠ u.ownBlock) u' bs
theorem Rows2.keepT {W w w1 : World} {AN : Option Addr} {n cN g : Nat} {u u' : Value} {hs bs : List ByteArray} {cs : Array Value} (h : Rows2 W w AN n cN u u' hs bs) (hk : KeepT w w1 g) (hg : w.heap[g]? = some (.cells cs 105 (0, 0))) : Rows2 W w1 AN n cN u u' hs bs := ⟨R_keepT h.1 hk hg, R_keepT h.2 hk hg⟩
theorem Rows2.below {W w w1 : World} {AN : Option Addr} {n cN : Nat} {u u' : Value} {hs bs : List ByteArray} (h : Rows2 W w AN n cN u u' hs bs) (hk : Below w.heap.size w w1) : Rows2 W w1 AN n cN u u' hs bs := ⟨Kd.R_below h.1 hk, Kd.R_below h.2 hk⟩
theorem Rows2.swap {W w : World} {AN : Option Addr} {n cN : Nat} {u u' : Value} {hs bs : List ByteArray} (h : Rows2 W w AN n cN u u' hs bs) : Rows2 W w AN n cN u' u bs hs := ⟨h.2, h.1⟩
theorem Rows2.put {W w w1 : World} {AN : Option Addr} {cN : Nat} {nm : List ByteArray} {u u' v : Value} {hs bs hs' : List ByteArray} (h : Rows2 W w AN nm.length cN u u' hs bs) (hn : Kd.R Kd.string 9 w W.heap.size (fun _ => True) (.slice AN nm.length cN) nm) (hr : Kd.R Kd.string 9 w1 W.heap.size (fun k_ => ((some k_ = u.ownBlock) ∨ w.heap.size ≤ k_)) v hs') (hk : Kept w w1 (fun k => some k = u.ownBlock)) : Rows2 W w1 AN nm.length cN v u' hs' bs := by
  have lt : ∀ {v2 : Value} {xs : List ByteArray} {ok : Nat → Prop} {k : Nat}, Kd.R Kd.string 9 w W.heap.size ok v2 xs → some k = v2.ownBlock → k < w.heap.size := fun {v2 xs ok k} h2 e => by
    obtain ⟨cells, hc⟩ := own_typed (Kd.own_of_R h2) k e.symm
    exact blk_lt hc
  have dis : ∀ k, v.ownBlock = some k → some k ≠ (Value.slice AN nm.length cN).ownBlock ∧ some k ≠ u'.ownBlock := fun k hv => by
    rcases hr.1 k hv with e | hge
    · exact h.1.1 k e.symm
    exact ⟨fun e => by have := lt hn e; omega, fun e => by have := lt h.2 e; omega⟩
  refine ⟨Kd.R_reok rfl hr dis, ?_⟩
  refine Kd.R_reok rfl (Kd.R_kept (Kd.R_tight rfl h.2) hk (fun k e1 e2 => (h.2.1 k e1.symm).2 e2)) (fun k e => ⟨(h.2.1 k e).1, fun e2 => (dis k e2.symm).2 e.symm⟩)
theorem nilC (w : World) : Kd.C Kd.string w none ([] : List ByteArray).length [] := ⟨rfl, by simp, fun h => absurd h (Nat.lt_irrefl 0)⟩
set_option maxHeartbeats 8000000 in
set_option maxRecDepth 100000 in
theorem Run_len (k : Nat) (A0 : Option Addr) (c0 : Nat) (l0 : List (S43)) (A1 : Option Addr) (c1 : Nat) (l1 : List Bool) (A2 : Option Addr) (c2 : Nat) (l2 : List (S69)) (nm : List ByteArray) (w : World) (hr0 : Kd.C k43 w A0 l0.length l0) (hc0 : l0.length ≤ c0) (hr1 : Kd.C Kd.bool w A1 l1.length l1) (hc1 : l1.length ≤ c1) (hr2 : Kd.C k69 w A2 l2.length l2) (hc2 : l2.length ≤ c2) (hbi : rung_Bits.f k l0 = some nm) (hcl : slices_Clone_bool_bool.f l1 = some l1) (hne : l1.length ≠ nm.length) :
    Calls Tryd.prog 31 #[.slice A0 l0.length c0, .slice A1 l1.length c1, .slice A2 l2.length c2] w fun e w' => ∃ v0_ v1_ v2_ : Value, e = .returned (.tuple #[v0_, v1_, v2_]) ∧ Kd.R Kd.bool 4 w' w.heap.size (fun _ => True) v0_ [] ∧ Kd.R Kd.string 9 w' w.heap.size (fun k_ => some k_ ≠ (v2_ : Value).ownBlock) v1_ [] ∧ Kd.R Kd.string 9 w' w.heap.size (fun k_ => some k_ ≠ (v1_ : Value).ownBlock) v2_ [] ∧ Below w.heap.size w w' := by
  have HR0 := Aside0.mk hr0
  have HC0 := Aside0.mk hc0
  have HR1 := Aside0.mk hr1
  have HC1 := Aside0.mk hc1
  have HR2 := Aside0.mk hr2
  have HC2 := Aside0.mk hc2
  have HBi := Aside0.mk hbi
  have HCl := Aside0.mk hcl
  have d1 : ((l1.length : Int) == (nm.length : Int)) = false := beq_eq_false_iff_ne.mpr (by omega)
  have d2 : ((l1.length : Int) != (nm.length : Int)) = true := bne_iff_ne.mpr (by omega)
  clear hr0 hc0 hr1 hc1 hr2 hc2 hbi hcl hne
  go_enter Tryd.func31, Tryd.ntmps31
  go_wp2_with (first | (go_at_call 23; refine (rung_Bits.calls k A0 c0 l0 nm _ HR0.out HC0.out HBi.out).mono ?_; rintro e w1 ⟨v1, rfl, ho1, hb1⟩; obtain ⟨AN, cN, e1⟩ := Kd.R_slice ho1; subst e1; have HO1 := Aside0.mk ho1; have HB1 := Aside0.mk hb1; clear ho1 hb1) | (go_at_call 65; refine (slices_Clone_bool_bool.calls A1 c1 l1 l1 _ (Kd.C_below HR1.out HB1.out) HC1.out HCl.out).mono ?_; rintro e w2 ⟨v2, rfl, ho2, hb2⟩; obtain ⟨AB, cB, e2⟩ := Kd.R_slice ho2; subst e2; have HO2 := Aside0.mk (Kd.R_lower ho2 HB1.out.size); have HB2 := Aside0.mk (below_step HB1.out hb2); have HO3 := Aside0.mk (Kd.R_below HO1.out hb2); clear ho2 hb2) | ((with_reducible refine gate_dst (N := 23) rfl ?_); refine box_event ?hg (N := 23) ?hd (cs := #[.slice AN nm.length cN, .slice AB l1.length cB, .slice A2 l2.length c2, .slice none 0 0]) (t := 105) ?hr ?_; (case hd => rfl); (case hg => rfl); (case hr => first | (go_simp; done) | (go_simp; rfl)); intro g hg w3 hbox hb3; have HM3 : Aside0 (Mach w w3 g nm l1 l2 [] AN cN AB cB A2 c2 none 0) := ⟨⟨below_step HB2.out hb3, by rw [hg]; exact HB2.out.size, hbox, Kd.R_below HO3.out hb3, Kd.R_below HO2.out hb3, ⟨HR2.out, HC2.out⟩, Kd.R_nil _ _ _ _ _⟩⟩; have hm0 : w3.cell? ⟨g, 0, none⟩ = some (.slice AN nm.length cN) := (blk_cell hbox 0).trans rfl; clear hbox hb3 hg))
  refine bodyPost_ret (results_tmp3 rfl _ _ _) rfl ?_
  exact ⟨_, _, _, rfl, Kd.R_nil _ _ _ _ _, Kd.R_nil _ _ _ _ _, Kd.R_nil _ _ _ _ _, HM3.out.below⟩
set_option maxHeartbeats 8000000 in
set_option maxRecDepth 100000 in
theorem Run_bad (k : Nat) (A0 : Option Addr) (c0 : Nat) (l0 : List (S43)) (A1 : Option Addr) (c1 : Nat) (l1 : List Bool) (A2 : Option Addr) (c2 : Nat) (l2 : List (S69)) (nm : List ByteArray) (er : Int) (w : World) (hr0 : Kd.C k43 w A0 l0.length l0) (hc0 : l0.length ≤ c0) (hr1 : Kd.C Kd.bool w A1 l1.length l1) (hc1 : l1.length ≤ c1) (hr2 : Kd.C k69 w A2 l2.length l2) (hc2 : l2.length ≤ c2) (hT : UT w) (hbi : rung_Bits.f k l0 = some nm) (hcl : slices_Clone_bool_bool.f l1 = some l1) (hne : l1.length = nm.length) (he : rung_checkN.f k l0 [] [] = some er) (h0 : er ≠ 0) :
    Calls Tryd.prog 31 #[.slice A0 l0.length c0, .slice A1 l1.length c1, .slice A2 l2.length c2] w fun e w' => ∃ v0_ v1_ v2_ : Value, e = .returned (.tuple #[v0_, v1_, v2_]) ∧ Kd.R Kd.bool 4 w' w.heap.size (fun _ => True) v0_ [] ∧ Kd.R Kd.string 9 w' w.heap.size (fun k_ => some k_ ≠ (v2_ : Value).ownBlock) v1_ [] ∧ Kd.R Kd.string 9 w' w.heap.size (fun k_ => some k_ ≠ (v1_ : Value).ownBlock) v2_ [] ∧ Below w.heap.size w w' := by
  have HR0 := Aside0.mk hr0
  have HC0 := Aside0.mk hc0
  have HR1 := Aside0.mk hr1
  have HC1 := Aside0.mk hc1
  have HR2 := Aside0.mk hr2
  have HC2 := Aside0.mk hc2
  have HBi := Aside0.mk hbi
  have HCl := Aside0.mk hcl
  have HE := Aside0.mk he
  have HT := Aside0.mk hT
  have e1 : (l1.length : Int) = (nm.length : Int) := by omega
  have d1 : ((l1.length : Int) == (nm.length : Int)) = true := beq_iff_eq.mpr e1
  have d2 : ((l1.length : Int) != (nm.length : Int)) = false := bne_eq_false_iff_eq.mpr e1
  have d3 : (er == 0) = false := beq_eq_false_iff_ne.mpr h0
  have d4 : (er != 0) = true := bne_iff_ne.mpr h0
  clear hr0 hc0 hr1 hc1 hr2 hc2 hbi hcl hne he h0 hT e1
  go_enter Tryd.func31, Tryd.ntmps31
  go_wp2_with (first | (go_at_call 23; refine (rung_Bits.calls k A0 c0 l0 nm _ HR0.out HC0.out HBi.out).mono ?_; rintro e w1 ⟨v1, rfl, ho1, hb1⟩; obtain ⟨AN, cN, e1⟩ := Kd.R_slice ho1; subst e1; have HO1 := Aside0.mk ho1; have HB1 := Aside0.mk hb1; clear ho1 hb1) | (go_at_call 65; refine (slices_Clone_bool_bool.calls A1 c1 l1 l1 _ (Kd.C_below HR1.out HB1.out) HC1.out HCl.out).mono ?_; rintro e w2 ⟨v2, rfl, ho2, hb2⟩; obtain ⟨AB, cB, e2⟩ := Kd.R_slice ho2; subst e2; have HO2 := Aside0.mk (Kd.R_lower ho2 HB1.out.size); have HB2 := Aside0.mk (below_step HB1.out hb2); have HO3 := Aside0.mk (Kd.R_below HO1.out hb2); clear ho2 hb2) | ((with_reducible refine gate_dst (N := 23) rfl ?_); refine box_event ?hg (N := 23) ?hd (cs := #[.slice AN nm.length cN, .slice AB l1.length cB, .slice A2 l2.length c2, .slice none 0 0]) (t := 105) ?hr ?_; (case hd => rfl); (case hg => rfl); (case hr => first | (go_simp; done) | (go_simp; rfl)); intro g hg w3 hbox hb3; have HM3 : Aside0 (Mach w w3 g nm l1 l2 [] AN cN AB cB A2 c2 none 0) := ⟨⟨below_step HB2.out hb3, by rw [hg]; exact HB2.out.size, hbox, Kd.R_below HO3.out hb3, Kd.R_below HO2.out hb3, ⟨HR2.out, HC2.out⟩, Kd.R_nil _ _ _ _ _⟩⟩; have hm0 : w3.cell? ⟨g, 0, none⟩ = some (.slice AN nm.length cN) := (blk_cell hbox 0).trans rfl; clear hbox hb3 hg) | (go_at_call 59; refine (rung_checkN.calls k A0 c0 l0 none 0 [] [] er _ (Kd.C_below HR0.out HM3.out.below) HC0.out (nilC _) (Nat.le_refl _) HE.out rfl (UT.below HT.out HM3.out.below)).mono ?_; rintro e w4 ⟨rfl, hb4⟩; have HM4 := Aside0.mk (Mach.step HM3.out hb4); clear hb4))
  refine bodyPost_ret (results_tmp3 rfl _ _ _) rfl ?_
  exact ⟨_, _, _, rfl, Kd.R_nil _ _ _ _ _, Kd.R_nil _ _ _ _ _, Kd.R_nil _ _ _ _ _, HM4.out.below⟩
set_option maxHeartbeats 8000000 in
set_option maxRecDepth 100000 in
theorem Run_main (k : Nat) (A0 : Option Addr) (c0 : Nat) (l0 : List (S43)) (A1 : Option Addr) (c1 : Nat) (l1 : List Bool) (A2 : Option Addr) (c2 : Nat) (l2 : List (S69)) (nm : List ByteArray) (r : List Bool × List ByteArray × List ByteArray) (w : World) (hr0 : Kd.C k43 w A0 l0.length l0) (hc0 : l0.length ≤ c0) (hr1 : Kd.C Kd.bool w A1 l1.length l1) (hc1 : l1.length ≤ c1) (hr2 : Kd.C k69 w A2 l2.length l2) (hc2 : l2.length ≤ c2) (hT : UT w) (hbi : rung_Bits.f k l0 = some nm) (hcl : slices_Clone_bool_bool.f l1 = some l1) (hne : l1.length = nm.length) (he : rung_checkN.f k l0 [] [] = some 0) (hrs : rungsF k nm l2 l0 (l1, [], []) = some r) :
    Calls Tryd.prog 31 #[.slice A0 l0.length c0, .slice A1 l1.length c1, .slice A2 l2.length c2] w fun e w' => ∃ v0_ v1_ v2_ : Value, e = .returned (.tuple #[v0_, v1_, v2_]) ∧ Kd.R Kd.bool 4 w' w.heap.size (fun _ => True) v0_ r.1 ∧ Kd.R Kd.string 9 w' w.heap.size (fun k_ => some k_ ≠ (v2_ : Value).ownBlock) v1_ r.2.1 ∧ Kd.R Kd.string 9 w' w.heap.size (fun k_ => some k_ ≠ (v1_ : Value).ownBlock) v2_ r.2.2 ∧ Below w.heap.size w w' := by
  have HR0 := Aside0.mk hr0
  have HC0 := Aside0.mk hc0
  have HR1 := Aside0.mk hr1
  have HC1 := Aside0.mk hc1
  have HR2 := Aside0.mk hr2
  have HC2 := Aside0.mk hc2
  have HBi := Aside0.mk hbi
  have HCl := Aside0.mk hcl
  have HE := Aside0.mk he
  have HT := Aside0.mk hT
  have HRS := Aside0.mk hrs
  have e1 : (l1.length : Int) = (nm.length : Int) := by omega
  have d1 : ((l1.length : Int) == (nm.length : Int)) = true := beq_iff_eq.mpr e1
  have d2 : ((l1.length : Int) != (nm.length : Int)) = false := bne_eq_false_iff_eq.mpr e1
  have hu43 := Tryd.underlying43
  have hu40 := Tryd.underlying40
  have hu34 := Tryd.underlying34
  clear hr0 hc0 hr1 hc1 hr2 hc2 hbi hcl hne he hT hrs e1
  go_enter Tryd.func31, Tryd.ntmps31
  go_wp2_with (first | (go_at_call 23; refine (rung_Bits.calls k A0 c0 l0 nm _ HR0.out HC0.out HBi.out).mono ?_; rintro e w1 ⟨v1, rfl, ho1, hb1⟩; obtain ⟨AN, cN, e1⟩ := Kd.R_slice ho1; subst e1; have HO1 := Aside0.mk ho1; have HB1 := Aside0.mk hb1; clear ho1 hb1) | (go_at_call 65; refine (slices_Clone_bool_bool.calls A1 c1 l1 l1 _ (Kd.C_below HR1.out HB1.out) HC1.out HCl.out).mono ?_; rintro e w2 ⟨v2, rfl, ho2, hb2⟩; obtain ⟨AB, cB, e2⟩ := Kd.R_slice ho2; subst e2; have HO2 := Aside0.mk (Kd.R_lower ho2 HB1.out.size); have HB2 := Aside0.mk (below_step HB1.out hb2); have HO3 := Aside0.mk (Kd.R_below HO1.out hb2); clear ho2 hb2) | ((with_reducible refine gate_dst (N := 23) rfl ?_); refine box_event ?hg (N := 23) ?hd (cs := #[.slice AN nm.length cN, .slice AB l1.length cB, .slice A2 l2.length c2, .slice none 0 0]) (t := 105) ?hr ?_; (case hd => rfl); (case hg => rfl); (case hr => first | (go_simp; done) | (go_simp; rfl)); intro g hg w3 hbox hb3; have HM3 : Aside0 (Mach w w3 g nm l1 l2 [] AN cN AB cB A2 c2 none 0) := ⟨⟨below_step HB2.out hb3, by rw [hg]; exact HB2.out.size, hbox, Kd.R_below HO3.out hb3, Kd.R_below HO2.out hb3, ⟨HR2.out, HC2.out⟩, Kd.R_nil _ _ _ _ _⟩⟩; have hm0 : w3.cell? ⟨g, 0, none⟩ = some (.slice AN nm.length cN) := (blk_cell hbox 0).trans rfl; clear hbox hb3 hg) | (go_at_call 59; refine (rung_checkN.calls k A0 c0 l0 none 0 [] [] 0 _ (Kd.C_below HR0.out HM3.out.below) HC0.out (nilC _) (Nat.le_refl _) HE.out rfl (UT.below HT.out HM3.out.below)).mono ?_; rintro e w4 ⟨rfl, hb4⟩; have HM4 := Aside0.mk (Mach.step HM3.out hb4); clear hb4))
  go_loopg [10, 11, 39] l0.length (fun kq v10 v11 v39 w' => ∃ (u u' : Value) (x : Int) (s : List Bool × List ByteArray × List ByteArray) (stx : List Bool) (AS : Option Addr) (cS : Nat), v10 = u ∧ v11 = u' ∧ v39 = .int .i64 x ∧ Aside0 (0 ≤ x ∧ x ≤ (l0.length : Int) ∧ (kq : Int) = l0.length - x) ∧ Aside0 (Mach w w' g nm s.1 l2 stx AN cN AB cB A2 c2 AS cS) ∧ Aside0 (Rows2 w w' AN nm.length cN u u' s.2.1 s.2.2) ∧ Aside0 (rungsF k nm l2 (l0.drop x.toNat) s = some r))
  case atStart => exact ⟨_, _, 0, (l1, [], []), [], none, 0, rfl, rfl, rfl, ⟨by omega, by omega, by omega⟩, HM4, ⟨Kd.R_nil _ _ _ _ _, Kd.R_nil _ _ _ _ _⟩, ⟨by simpa using HRS.out⟩⟩
  case round =>
    clear HRS HM4 HM3 hm0 d1 d2 HB2 HO1 HO2 HO3 HB1 HE HCl HBi HR1 HC1
    obtain ⟨u, u', x, s, stx, AS, cS, rfl, rfl, rfl, HK, HM, HU, HRs⟩ := hrel
    by_cases hlt : x < (l0.length : Int)
    · have p1 := HK.out.1
      have q1 := hlt
      obtain ⟨ad, AC, cC, e1, y0, y1, y2, lC, gC⟩ := at_T43 HR0.out x p1 q1
      cases e1
      have hx0 := pw_cell_below HM.out.below y0
      have hx1 := pw_cell_below HM.out.below y1
      have hx2 := pw_cell_below HM.out.below y2
      have hrs := HRs.out
      rw [drop_T43 p1 q1] at hrs
      generalize rd_T43 l0 x = y at *
      obtain ⟨s', hrung, hrest⟩ := Option.bind_eq_some_iff.mp hrs
      unfold rungF at hrung
      obtain ⟨stE, hcode, hrung⟩ := Option.bind_eq_some_iff.mp hrung
      by_cases hst : stE.length = 0
      · rw [if_pos hst] at hrung; cases hrung
      rw [if_neg hst] at hrung
      have HRung := Aside0.mk hrung
      have HRest := Aside0.mk hrest
      have HCode := Aside0.mk hcode
      have HST := Aside0.mk hst
      have HGC := Aside0.mk gC
      have HLC := Aside0.mk lC
      obtain ⟨go, hgo⟩ : ∃ q, q = gk := ⟨_, rfl⟩
      have HGO := Aside0.mk hgo
      have HKK : Aside0 (0 ≤ x ∧ x < (l0.length : Int) ∧ (go : Int) = l0.length - x) := ⟨by have := HK.out; omega⟩
      clear hgo
      have hw : wrap64 (x + 1) = x + 1 := by have := HK.out; have := HR0.out.2.1; unfold wrap64; omega
      have f0 : decide (x < (l0.length : Int)) = true := decide_eq_true hlt
      have f1 : decide (0 ≤ x) = true := decide_eq_true p1
      replace p1 := eq_true p1
      replace q1 := eq_true q1
      clear hlt HK HRs hrs hrung hrest hcode hst gC lC y0 y1 y2
      go_upto_region 8 with (fail)
      obtain ⟨w5, hw5⟩ : ∃ w5, w5 = wr.alloc (.cells #[.int .i64 y.f0, .string y.f1, .slice AC y.f2.length cC] 43) := ⟨_, rfl⟩
      rw [← hw5]
      have hal : Below wr.heap.size wr w5 := by rw [hw5]; exact below_alloc (Below.refl _ _) _
      have HX5 : Aside0 (w5.heap[wr.heap.size]? = some (.cells #[.int .i64 y.f0, .string y.f1, .slice AC y.f2.length cC] 43 (0, 0))) := ⟨by rw [hw5]; exact heap_alloc_new wr _⟩
      have HM5 := Aside0.mk (Mach.step HM.out hal)
      have HU5 := Aside0.mk (Rows2.below HU.out hal)
      have hm3 : w5.cell? ⟨g, 3, none⟩ = some (.slice AS stx.length cS) := (blk_cell HM5.out.blk 3).trans rfl
      have fm3 : w5.frozen? ⟨g, 3, none⟩ = false := blk_frozen HM5.out.blk 3
      obtain ⟨gr, hgr⟩ : ∃ gr, gr = wr.heap.size := ⟨_, rfl⟩
      rw [← hgr] at HX5
      rw [← hgr]
      clear hal hw5 hgr HM HU hx0 hx1 hx2
      go_upto_region 9 with (fail)
      obtain ⟨w6, hw6⟩ : ∃ w6, w6 = w5.setCell ⟨g, 3, none⟩ (.slice none 0 0) := ⟨_, rfl⟩
      rw [← hw6]
      have hn := Mach.nil_ HM5.out
      rw [← hw6] at hn
      have HM6 := Aside0.mk hn.1
      have HU6 := Aside0.mk (Rows2.keepT HU5.out hn.2 HM5.out.blk)
      have HX6 := Aside0.mk (blk_keepT HX5.out hn.2 (by decide) HM5.out.blk (by decide))
      have hb2 : w6.cell? ⟨gr, 2, none⟩ = some (.slice AC y.f2.length cC) := (blk_cell HX6.out 2).trans rfl
      clear hn hw6 hm3 fm3 HM5 HU5 HX5
      go_wp2
      go_loopg [49] y.f2.length (fun kq v49 w' => ∃ (j : Int) (st : List Bool) (AS : Option Addr) (cS : Nat), v49 = .int .i64 j ∧ Aside0 (0 ≤ j ∧ j ≤ (y.f2.length : Int) ∧ (kq : Int) = y.f2.length - j) ∧ Aside0 (Mach w w' g nm s.1 l2 st AN cN AB cB A2 c2 AS cS) ∧ Aside0 (Rows2 w w' AN nm.length cN u10 u11 s.2.1 s.2.2) ∧ Aside0 (w'.heap[gr]? = some (.cells #[.int .i64 y.f0, .string y.f1, .slice AC y.f2.length cC] 43 (0, 0))) ∧ Aside0 (codeF k nm s.1 l2 (y.f2.drop j.toNat) st = some stE))
      case atStart => exact ⟨0, [], none, 0, rfl, ⟨by omega, by omega, by omega⟩, HM6, HU6, HX6, ⟨by simpa using HCode.out⟩⟩
      case round =>
        clear HM6 HU6 HX6 hb2 HCode
        obtain ⟨j, st, AS, cS, rfl, HJ, HM, HU, HX, HCd⟩ := hrel
        by_cases hjt : j < (y.f2.length : Int)
        · have p3 := HJ.out.1
          have q3 := hjt
          obtain ⟨ad2, A5, c5, e2, z0, z1, z2, z3, z4, z5, l5, g5⟩ := at_T40 HGC.out j p3 q3
          cases e2
          have hz0 := pw_cell_below HM.out.below z0
          have hz1 := pw_cell_below HM.out.below z1
          have hz2 := pw_cell_below HM.out.below z2
          have hz3 := pw_cell_below HM.out.below z3
          have hz4 := pw_cell_below HM.out.below z4
          have hz5 := pw_cell_below HM.out.below z5
          have hcd := HCd.out
          rw [drop_T40 p3 q3] at hcd
          generalize rd_T40 y.f2 j = z at *
          obtain ⟨st', hins, hcd⟩ := Option.bind_eq_some_iff.mp hcd
          have HIns := Aside0.mk hins
          have HCd2 := Aside0.mk hcd
          have HG5 := Aside0.mk g5
          have HL5 := Aside0.mk l5
          have HJJ : Aside0 (0 ≤ j ∧ j < (y.f2.length : Int) ∧ (gk : Int) = y.f2.length - j ∧ (y.f2.length : Int) ≤ 9223372036854775807) := ⟨by have := HJ.out; have := HGC.out.2.1; omega⟩
          have f3 : decide (j < (y.f2.length : Int)) = true := decide_eq_true hjt
          have f4 : decide (0 ≤ j) = true := decide_eq_true p3
          replace p3 := eq_true p3
          replace q3 := eq_true q3
          clear hjt HJ HCd hins hcd g5 l5 z0 z1 z2 z3 z4 z5
          go_wp2_with (first | (go_at_call 67; refine (do_calls k w _ g nm s.1 l2 st AN cN AB cB A2 c2 AS cS z A5 c5 (Mach.step HM.out (below_alloc (Below.refl _ _) _)) HG5.out HL5.out HT.out st' HIns.out).mono ?_; rintro e w7 ⟨rfl, AS7, cS7, hm7, hk7⟩; have HM7 := Aside0.mk hm7; have HU7 := Aside0.mk (Rows2.keepT (Rows2.below HU.out (below_alloc (Below.refl _ _) _)) hk7 (Mach.step HM.out (below_alloc (Below.refl _ _) _)).blk); have HX7 := Aside0.mk (blk_keepT (blk_below HX.out (below_alloc (Below.refl _ _) _)) hk7 (by decide) (Mach.step HM.out (below_alloc (Below.refl _ _) _)).blk (by decide)); clear hm7 hk7))
          go_roundg (gk - 1)
          case measure => have := HJJ.out; omega
          case rel => exact ⟨wrap64 (j + 1), st', AS7, cS7, rfl, ⟨by have := HJJ.out; unfold wrap64; omega⟩, HM7, HU7, HX7, ⟨by rw [show wrap64 (j + 1) = j + 1 from by have := HJJ.out; unfold wrap64; omega]; exact HCd2.out⟩⟩
        have he : j = y.f2.length := by have := HJ.out; omega
        subst he
        have f3 : decide ((y.f2.length : Int) < (y.f2.length : Int)) = false := decide_eq_false (by omega)
        have hcd := HCd.out
        rw [List.drop_eq_nil_of_le (by omega)] at hcd
        have hse : st = stE := by simpa [codeF] using hcd
        subst hse
        clear HCd hcd HJ hjt
        obtain ⟨sb, hAS, hsb, hsok, hsty⟩ := R_blk HM.out.stk (by have := HST.out; omega)
        subst hAS
        have hcc := Kd.R_cell false HM.out.stk 0 (Int.le_refl 0) (by have := HST.out; omega)
        have hc0 : wr.cell? ⟨sb, 0, none⟩ = some (.bool (rdOf false st 0)) := hcc.1
        have hm3 : wr.cell? ⟨g, 3, none⟩ = some (.slice (some ⟨sb, 0, none⟩) st.length cS) := (blk_cell HM.out.blk 3).trans rfl
        have hb0 : wr.cell? ⟨gr, 0, none⟩ = some (.int .i64 y.f0) := (blk_cell HX.out 0).trans rfl
        have hb1 : wr.cell? ⟨gr, 1, none⟩ = some (.string y.f1) := (blk_cell HX.out 1).trans rfl
        have f5 : decide ((0 : Int) < (st.length : Int)) = true := decide_eq_true (by have := HST.out; omega)
        have p5 : ((0 : Int) < (st.length : Int)) = True := eq_true (by have := HST.out; omega)
        have f6 : decide (0 < st.length) = true := decide_eq_true (by have := HST.out; omega)
        have p6 : (0 < st.length) = True := eq_true (by have := HST.out; omega)
        have hrung := HRung.out
        obtain ⟨top, htop⟩ : ∃ top, rdOf false st 0 = top := ⟨_, rfl⟩
        rw [htop] at hc0 hrung
        clear HRung hcc hsb hsok hsty htop
        by_cases o0 : y.f0 = 0
        · rw [if_pos o0] at hrung
          have t0 : (y.f0 == 0) = true := beq_iff_eq.mpr o0
          obtain ⟨i, hix, hrung⟩ := Option.bind_eq_some_iff.mp hrung
          obtain ⟨hi1, hi2, hi3⟩ := idxF_some hix
          obtain rfl := Option.some.inj hrung
          obtain ⟨gb, hAB, hgb, _, _⟩ := R_blk HM.out.bts (by omega)
          subst hAB
          have hRb := Kd.R_cell false HM.out.bts i hi2 hi3
          obtain ⟨hcB, hfB⟩ := hRb
          have HBit := Aside0.mk (machine_bit k g wr AN cN nm gb s.1.length cB (.slice A2 l2.length c2) (.slice (some ⟨sb, 0, none⟩) st.length cS) y.f1 i HM.out.blk (Kd.R_reads' HM.out.nms).2.2 (Kd.R_reads' HM.out.nms).2.1 hi1 hi2 (by omega))
          have HGB := Aside0.mk hgb
          clear hix hi1 hi2 hi3 hgb hrung
          go_wp2_with (first | (go_at_call 68; refine HBit.out.mono ?_; rintro e w8 ⟨rfl, ⟨n1, rfl⟩⟩))
          go_roundg (go - 1)
          case measure => have := HKK.out; have := HGO.out; omega
          case rel =>
            have m8 := Mach.bit_ (Mach.step HM.out (pw_below_drewN (Below.refl _ wr) n1)) i top HGB.out
            have k8 := (KeepT.below (g := g) (pw_below_drewN (Below.refl _ wr) n1)).trans m8.2
            exact ⟨_, _, x + 1, (s.1.set i.toNat top, s.2.1, s.2.2), st, _, cS, rfl, rfl, (by first | rfl | rw [hw]), ⟨by have := HKK.out; omega⟩, ⟨m8.1⟩, ⟨Rows2.keepT HU.out k8 HM.out.blk⟩, HRest⟩
        rw [if_neg o0] at hrung
        have t0 : (y.f0 == 0) = false := beq_eq_false_iff_ne.mpr o0
        by_cases o1 : y.f0 = 1
        · rw [if_pos o1] at hrung
          have t1 : (y.f0 == 1) = true := beq_iff_eq.mpr o1
          cases top with
          | true =>
            rw [if_pos rfl] at hrung
            obtain ⟨i, hix, hrung⟩ := Option.bind_eq_some_iff.mp hrung
            obtain ⟨hi1, hi2, hi3⟩ := idxF_some hix
            obtain rfl := Option.some.inj hrung
            obtain ⟨gb, hAB, hgb, _, _⟩ := R_blk HM.out.bts (by omega)
            subst hAB
            have hRb := Kd.R_cell false HM.out.bts i hi2 hi3
            obtain ⟨hcB, hfB⟩ := hRb
            have HBit := Aside0.mk (machine_bit k g wr AN cN nm gb s.1.length cB (.slice A2 l2.length c2) (.slice (some ⟨sb, 0, none⟩) st.length cS) y.f1 i HM.out.blk (Kd.R_reads' HM.out.nms).2.2 (Kd.R_reads' HM.out.nms).2.1 hi1 hi2 (by omega))
            have HGB := Aside0.mk hgb
            clear hix hi1 hi2 hi3 hgb hrung
            go_wp2_with (first | (go_at_call 68; refine HBit.out.mono ?_; rintro e w8 ⟨rfl, ⟨n1, rfl⟩⟩))
            go_roundg (go - 1)
            case measure => have := HKK.out; have := HGO.out; omega
            case rel =>
              have m8 := Mach.bit_ (Mach.step HM.out (pw_below_drewN (Below.refl _ wr) n1)) i true HGB.out
              have k8 := (KeepT.below (g := g) (pw_below_drewN (Below.refl _ wr) n1)).trans m8.2
              exact ⟨_, _, x + 1, (s.1.set i.toNat true, s.2.1, s.2.2), st, _, cS, rfl, rfl, (by first | rfl | rw [hw]), ⟨by have := HKK.out; omega⟩, ⟨m8.1⟩, ⟨Rows2.keepT HU.out k8 HM.out.blk⟩, HRest⟩
          | false =>
            rw [if_neg (by decide)] at hrung
            obtain rfl := Option.some.inj hrung
            clear hrung
            go_wp2
            go_roundg (go - 1)
            case measure => have := HKK.out; have := HGO.out; omega
            case rel => exact ⟨_, _, x + 1, s, st, _, cS, rfl, rfl, (by first | rfl | rw [hw]), ⟨by have := HKK.out; omega⟩, ⟨Mach.step HM.out (by repeat (first | exact Below.refl _ _ | apply pw_below_drewN | apply below_drew1))⟩, ⟨Rows2.below HU.out (by repeat (first | exact Below.refl _ _ | apply pw_below_drewN | apply below_drew1))⟩, HRest⟩
        rw [if_neg o1] at hrung
        have t1 : (y.f0 == 1) = false := beq_eq_false_iff_ne.mpr o1
        by_cases o2 : y.f0 = 2
        · rw [if_pos o2] at hrung
          have t2 : (y.f0 == 2) = true := beq_iff_eq.mpr o2
          cases top with
          | true =>
            rw [if_pos rfl] at hrung
            obtain ⟨i, hix, hrung⟩ := Option.bind_eq_some_iff.mp hrung
            obtain ⟨hi1, hi2, hi3⟩ := idxF_some hix
            obtain rfl := Option.some.inj hrung
            obtain ⟨gb, hAB, hgb, _, _⟩ := R_blk HM.out.bts (by omega)
            subst hAB
            have hRb := Kd.R_cell false HM.out.bts i hi2 hi3
            obtain ⟨hcB, hfB⟩ := hRb
            have HBit := Aside0.mk (machine_bit k g wr AN cN nm gb s.1.length cB (.slice A2 l2.length c2) (.slice (some ⟨sb, 0, none⟩) st.length cS) y.f1 i HM.out.blk (Kd.R_reads' HM.out.nms).2.2 (Kd.R_reads' HM.out.nms).2.1 hi1 hi2 (by omega))
            have HGB := Aside0.mk hgb
            clear hix hi1 hi2 hi3 hgb hrung
            go_wp2_with (first | (go_at_call 68; refine HBit.out.mono ?_; rintro e w8 ⟨rfl, ⟨n1, rfl⟩⟩))
            go_roundg (go - 1)
            case measure => have := HKK.out; have := HGO.out; omega
            case rel =>
              have m8 := Mach.bit_ (Mach.step HM.out (pw_below_drewN (Below.refl _ wr) n1)) i false HGB.out
              have k8 := (KeepT.below (g := g) (pw_below_drewN (Below.refl _ wr) n1)).trans m8.2
              exact ⟨_, _, x + 1, (s.1.set i.toNat false, s.2.1, s.2.2), st, _, cS, rfl, rfl, (by first | rfl | rw [hw]), ⟨by have := HKK.out; omega⟩, ⟨m8.1⟩, ⟨Rows2.keepT HU.out k8 HM.out.blk⟩, HRest⟩
          | false =>
            rw [if_neg (by decide)] at hrung
            obtain rfl := Option.some.inj hrung
            clear hrung
            go_wp2
            go_roundg (go - 1)
            case measure => have := HKK.out; have := HGO.out; omega
            case rel => exact ⟨_, _, x + 1, s, st, _, cS, rfl, rfl, (by first | rfl | rw [hw]), ⟨by have := HKK.out; omega⟩, ⟨Mach.step HM.out (by repeat (first | exact Below.refl _ _ | apply pw_below_drewN | apply below_drew1))⟩, ⟨Rows2.below HU.out (by repeat (first | exact Below.refl _ _ | apply pw_below_drewN | apply below_drew1))⟩, HRest⟩
        rw [if_neg o2] at hrung
        have t2 : (y.f0 == 2) = false := beq_eq_false_iff_ne.mpr o2
        by_cases o3 : y.f0 = 3
        · rw [if_pos o3] at hrung
          have t3 : (y.f0 == 3) = true := beq_iff_eq.mpr o3
          cases top with
          | true =>
            rw [if_pos rfl] at hrung
            obtain rfl := Option.some.inj hrung
            clear hrung
            go_wp2
            go_roundg (go - 1)
            case measure => have := HKK.out; have := HGO.out; omega
            case rel => exact ⟨_, _, x + 1, s, st, _, cS, rfl, rfl, (by first | rfl | rw [hw]), ⟨by have := HKK.out; omega⟩, ⟨Mach.step HM.out (by repeat (first | exact Below.refl _ _ | apply pw_below_drewN | apply below_drew1))⟩, ⟨Rows2.below HU.out (by repeat (first | exact Below.refl _ _ | apply pw_below_drewN | apply below_drew1))⟩, HRest⟩
          | false =>
            rw [if_neg (by decide)] at hrung
            obtain ⟨h8, honce, hrung⟩ := Option.bind_eq_some_iff.mp hrung
            obtain rfl := Option.some.inj hrung
            have HOnce := Aside0.mk (rung_once.calls k (fun k_ => some k_ = (u10).ownBlock) u10 s.2.1 y.f1 h8 w wr HM.out.below (Kd.R_tight rfl HU.out.1) honce)
            clear hrung honce
            go_wp2_with (first | (go_at_call 58; refine HOnce.out.mono ?_; rintro e w8 ⟨v8, rfl, ho8, hb8, hk8⟩; have H8 := Aside0.mk (And.intro ho8 (And.intro hb8 hk8)); clear ho8 hb8 hk8))
            go_roundg (go - 1)
            case measure => have := HKK.out; have := HGO.out; omega
            case rel => exact ⟨_, _, x + 1, (s.1, h8, s.2.2), st, _, cS, rfl, rfl, (by first | rfl | rw [hw]), ⟨by have := HKK.out; omega⟩, ⟨Mach.names_ HM.out HU.out.1 (fun k e => (HU.out.1.1 k e).1) H8.out.2.1 H8.out.2.2⟩, ⟨Rows2.put HU.out HM.out.nms H8.out.1 H8.out.2.2⟩, HRest⟩
        rw [if_neg o3] at hrung
        have t3 : (y.f0 == 3) = false := beq_eq_false_iff_ne.mpr o3
        by_cases o4 : y.f0 = 4
        · rw [if_pos o4] at hrung
          have t4 : (y.f0 == 4) = true := beq_iff_eq.mpr o4
          cases top with
          | true =>
            rw [if_pos rfl] at hrung
            obtain rfl := Option.some.inj hrung
            clear hrung
            go_wp2
            go_roundg (go - 1)
            case measure => have := HKK.out; have := HGO.out; omega
            case rel => exact ⟨_, _, x + 1, s, st, _, cS, rfl, rfl, (by first | rfl | rw [hw]), ⟨by have := HKK.out; omega⟩, ⟨Mach.step HM.out (by repeat (first | exact Below.refl _ _ | apply pw_below_drewN | apply below_drew1))⟩, ⟨Rows2.below HU.out (by repeat (first | exact Below.refl _ _ | apply pw_below_drewN | apply below_drew1))⟩, HRest⟩
          | false =>
            rw [if_neg (by decide)] at hrung
            obtain ⟨h8, honce, hrung⟩ := Option.bind_eq_some_iff.mp hrung
            obtain rfl := Option.some.inj hrung
            have HOnce := Aside0.mk (rung_once.calls k (fun k_ => some k_ = (u11).ownBlock) u11 s.2.2 y.f1 h8 w wr HM.out.below (Kd.R_tight rfl HU.out.swap.1) honce)
            clear hrung honce
            go_wp2_with (first | (go_at_call 58; refine HOnce.out.mono ?_; rintro e w8 ⟨v8, rfl, ho8, hb8, hk8⟩; have H8 := Aside0.mk (And.intro ho8 (And.intro hb8 hk8)); clear ho8 hb8 hk8))
            go_roundg (go - 1)
            case measure => have := HKK.out; have := HGO.out; omega
            case rel => exact ⟨_, _, x + 1, (s.1, s.2.1, h8), st, _, cS, rfl, rfl, (by first | rfl | rw [hw]), ⟨by have := HKK.out; omega⟩, ⟨Mach.names_ HM.out HU.out.swap.1 (fun k e => (HU.out.swap.1.1 k e).1) H8.out.2.1 H8.out.2.2⟩, ⟨(Rows2.put HU.out.swap HM.out.nms H8.out.1 H8.out.2.2).swap⟩, HRest⟩
        rw [if_neg o4] at hrung
        have t4 : (y.f0 == 4) = false := beq_eq_false_iff_ne.mpr o4
        obtain rfl := Option.some.inj hrung
        clear hrung
        go_wp2
        go_roundg (go - 1)
        case measure => have := HKK.out; have := HGO.out; omega
        case rel => exact ⟨_, _, x + 1, s, st, _, cS, rfl, rfl, (by first | rfl | rw [hw]), ⟨by have := HKK.out; omega⟩, ⟨Mach.step HM.out (by repeat (first | exact Below.refl _ _ | apply pw_below_drewN | apply below_drew1))⟩, ⟨Rows2.below HU.out (by repeat (first | exact Below.refl _ _ | apply pw_below_drewN | apply below_drew1))⟩, HRest⟩
    have he : x = l0.length := by have := HK.out; omega
    subst he
    have f0 : decide ((l0.length : Int) < (l0.length : Int)) = false := decide_eq_false (by omega)
    have hrs := HRs.out
    rw [List.drop_eq_nil_of_le (by omega)] at hrs
    have hsr : s = r := by simpa [rungsF] using hrs
    subst hsr
    have hm1 : wr.cell? ⟨g, 1, none⟩ = some (.slice AB s.1.length cB) := (blk_cell HM.out.blk 1).trans rfl
    clear HK hlt hrs HRs
    go_wp2
    refine bodyPost_ret (results_tmp3 rfl _ _ _) rfl ?_
    exact ⟨_, _, _, rfl, HM.out.bts, Kd.R_mono HU.out.1 (fun k hk => hk.2), Kd.R_mono HU.out.2 (fun k hk => hk.2), HM.out.below⟩
set_option maxHeartbeats 8000000 in
set_option maxRecDepth 100000 in
theorem rung_Run.calls (k : Nat) (A0 : Option Addr) (c0 : Nat) (l0 : List (S43)) (A1 : Option Addr) (c1 : Nat) (l1 : List Bool) (A2 : Option Addr) (c2 : Nat) (l2 : List (S69)) (r1 : List Bool) (r2 r3 : List ByteArray) (w : World) (hr0 : Kd.C k43 w A0 l0.length l0) (hc0 : l0.length ≤ c0) (hr1 : Kd.C Kd.bool w A1 l1.length l1) (hc1 : l1.length ≤ c1) (hr2 : Kd.C k69 w A2 l2.length l2) (hc2 : l2.length ≤ c2) (h : rung_Run.f k l0 l1 l2 = some (r1, r2, r3)) (hT : UT w) :
  Calls Tryd.prog 31 #[.slice A0 l0.length c0, .slice A1 l1.length c1, .slice A2 l2.length c2] w fun e w' => ∃ v0_ v1_ v2_ : Value, e = .returned (.tuple #[v0_, v1_, v2_]) ∧ Kd.R Kd.bool 4 w' w.heap.size (fun _ => True) v0_ r1 ∧ Kd.R Kd.string 9 w' w.heap.size (fun k_ => some k_ ≠ (v2_ : Value).ownBlock) v1_ r2 ∧ Kd.R Kd.string 9 w' w.heap.size (fun k_ => some k_ ≠ (v1_ : Value).ownBlock) v2_ r3 ∧ Below w.heap.size w w' := by
 unfold rung_Run.f at h
 obtain ⟨nm, hbi, h⟩ := Option.bind_eq_some_iff.mp h
 obtain ⟨bs, hcl, h⟩ := Option.bind_eq_some_iff.mp h
 obtain rfl := clone_f hcl
 by_cases hne : bs.length = nm.length
 ·rw [if_pos hne] at h
  obtain ⟨e, he, h⟩ := Option.bind_eq_some_iff.mp h
  by_cases h0 : e = 0
  ·rw [if_pos h0] at h
   subst h0
   exact Run_main k A0 c0 l0 A1 c1 bs A2 c2 l2 nm (r1, r2, r3) w hr0 hc0 hr1 hc1 hr2 hc2 hT hbi hcl hne he h
  rw [if_neg h0] at h
  simp at h
  obtain ⟨rfl, rfl, rfl⟩ := h
  exact Run_bad k A0 c0 l0 A1 c1 bs A2 c2 l2 nm e w hr0 hc0 hr1 hc1 hr2 hc2 hT hbi hcl hne he h0
 rw [if_neg hne] at h
 simp at h
 obtain ⟨rfl, rfl, rfl⟩ := h
 exact Run_len k A0 c0 l0 A1 c1 bs A2 c2 l2 nm w hr0 hc0 hr1 hc1 hr2 hc2 hbi hcl hne
end Go.Proofs.YtiaccdaeomaogaaDoor.F
namespace Go.Proofs.YtiaccdaeomaogaaDoor.F
open Go.RowKit Go.Proofs.YtiaccdaeomaogaaDoorW.PrintWords Go.Proofs.YtiaccdaeomaogaaDoorW.PrintLast Go.Proofs.YtiaccdaeomaogaaDoorW.PrintMore
set_option linter.unusedVariables false
set_option linter.unusedSimpArgs false
def namedP (op : Int) : Bool × Int × Int × Bool :=
  if op = 0 ∨ op = 1 then (true, 0, 1, true) else if op = 2 then (false, 0, 1, true) else if op = 3 ∨ op = 4 ∨ op = 5 ∨ op = 6 then (true, 1, 1, true) else if op = 7 ∨ op = 8 then (false, 2, 1, true) else if op = 9 then (false, 1, 1, true) else (false, 0, 0, false)
theorem named_tot (op : Int) : Tot (fun k => rung_named.f k op) (namedP op) := by
  refine ⟨3, fun k hk => ?_⟩
  obtain ⟨j, rfl⟩ : ∃ j, k = j + 3 := ⟨k - 3, by omega⟩
  by_cases h0 : op = 0; · subst h0; simp [rung_named.f, rung_named.j0, namedP]
  by_cases h1 : op = 1; · subst h1; simp [rung_named.f, rung_named.j0, namedP]
  by_cases h2 : op = 2; · subst h2; simp [rung_named.f, rung_named.j0, namedP]
  by_cases h3 : op = 3; · subst h3; simp [rung_named.f, rung_named.j0, rung_named.j1, namedP]
  by_cases h4 : op = 4; · subst h4; simp [rung_named.f, rung_named.j0, rung_named.j1, namedP]
  by_cases h5 : op = 5; · subst h5; simp [rung_named.f, rung_named.j0, rung_named.j1, namedP]
  by_cases h6 : op = 6; · subst h6; simp [rung_named.f, rung_named.j0, rung_named.j1, namedP]
  by_cases h7 : op = 7; · subst h7; simp [rung_named.f, rung_named.j0, rung_named.j1, rung_named.j2, namedP]
  by_cases h8 : op = 8; · subst h8; simp [rung_named.f, rung_named.j0, rung_named.j1, rung_named.j2, namedP]
  by_cases h9 : op = 9; · subst h9; simp [rung_named.f, rung_named.j0, rung_named.j1, rung_named.j2, namedP]
  simp [rung_named.f, rung_named.j0, rung_named.j1, rung_named.j2, namedP, h0, h1, h2, h3, h4, h5, h6, h7, h8, h9]
def Res (F : Nat → Option Int) (c : Prop) (N : Nat → Option Int) : Prop := (∃ e, e ≠ 0 ∧ Tot F e ∧ ¬ c) ∨ (c ∧ ∀ v, Tot N v → Tot F v)
theorem Res.bad {F N : Nat → Option Int} {c : Prop} {e : Int} (he : e ≠ 0) (h : Tot F e) (hc : ¬ c) : Res F c N := .inl ⟨e, he, h, hc⟩
theorem drop40 {l : List S40} {i : Nat} (h : i < l.length) : l.drop i = rd_T40 l (i : Int) :: l.drop (i + 1) := by
  rw [List.drop_eq_getElem_cons h]
  unfold rd_T40; rw [Int.toNat_natCast, List.getD, List.getElem?_eq_getElem h]; rfl
theorem drop43 {l : List S43} {i : Nat} (h : i < l.length) : l.drop i = rd_T43 l (i : Int) :: l.drop (i + 1) := by
  rw [List.drop_eq_getElem_cons h]
  unfold rd_T43; rw [Int.toNat_natCast, List.getD, List.getElem?_eq_getElem h]; rfl
theorem rd40_mem {l : List S40} {i : Nat} (h : i < l.length) : rd_T40 l (i : Int) ∈ l := by
  unfold rd_T40; rw [Int.toNat_natCast, List.getD, List.getElem?_eq_getElem h]; exact List.getElem_mem h
theorem rd43_mem {l : List S43} {i : Nat} (h : i < l.length) : rd_T43 l (i : Int) ∈ l := by
  unfold rd_T43; rw [Int.toNat_natCast, List.getD, List.getElem?_eq_getElem h]; exact List.getElem_mem h
def bitsS (acc : List ByteArray) (r : S43) : List ByteArray := if 0 ≤ r.f0 ∧ r.f0 ≤ 2 then onceP acc r.f1 else acc
def bitsP (l : List S43) : List ByteArray := l.foldl bitsS []
theorem bits_l0 (l : List S43) (hl : l.length ≤ 1000) : ∀ (m i : Nat) (acc : List ByteArray), i + m = l.length → acc.length ≤ i → Tot (fun k => rung_Bits.l0 k acc l (l.length : Int) (i : Int)) ((l.drop i).foldl bitsS acc)
  | 0, i, acc, e, ha => by
    refine Tot.succ ?_
    simp only [rung_Bits.l0, if_neg (show ¬ (i : Int) < (l.length : Int) by omega)]
    rw [List.drop_eq_nil_of_le (by omega)]; exact Tot.const _
  | m + 1, i, acc, e, ha => by
    have hi : i < l.length := by omega
    refine Tot.succ ?_
    rw [drop43 hi, List.foldl_cons]
    simp only [rung_Bits.l0, if_pos (show (i : Int) < (l.length : Int) by omega), if_pos (show 0 ≤ (i : Int) by omega), w1 (show 0 ≤ (i : Int) by omega) (show (i : Int) < 9223372036854775807 by omega)]
    unfold bitsS
    by_cases g0 : 0 ≤ (rd_T43 l (i : Int)).f0
    · by_cases g2 : (rd_T43 l (i : Int)).f0 ≤ 2
      · simp only [if_pos (show (rd_T43 l (i : Int)).f0 ≥ 0 from g0), if_pos g2, if_pos (And.intro g0 g2)]
        exact Tot.bind (once_tot acc _ (by omega)) (bits_l0 l hl m (i + 1) _ (by omega) (by have := (onceP_len acc (rd_T43 l (i : Int)).f1).1; omega))
      · simp only [if_pos (show (rd_T43 l (i : Int)).f0 ≥ 0 from g0), if_neg g2, if_neg (show ¬ (0 ≤ (rd_T43 l (i : Int)).f0 ∧ (rd_T43 l (i : Int)).f0 ≤ 2) from fun h => g2 h.2)]
        exact bits_l0 l hl m (i + 1) _ (by omega) (by omega)
    · simp only [if_neg (show ¬ (rd_T43 l (i : Int)).f0 ≥ 0 from g0), if_neg (show ¬ (0 ≤ (rd_T43 l (i : Int)).f0 ∧ (rd_T43 l (i : Int)).f0 ≤ 2) from fun h => g0 h.1)]
      exact bits_l0 l hl m (i + 1) _ (by omega) (by omega)
theorem bits_tot (l : List S43) (hl : l.length ≤ 1000) : Tot (fun k => rung_Bits.f k l) (bitsP l) := bits_l0 l hl l.length 0 [] (by omega) (by simp)
theorem bitsS_len : ∀ (l : List S43) (acc : List ByteArray), (l.foldl bitsS acc).length ≤ acc.length + l.length
  | [], acc => by simp
  | r :: rs, acc => by
    have h1 := bitsS_len rs (bitsS acc r)
    have h2 : (bitsS acc r).length ≤ acc.length + 1 := by unfold bitsS; split; exact (onceP_len _ _).1; omega
    simp only [List.foldl_cons, List.length_cons]; omega
theorem bitsP_len (l : List S43) : (bitsP l).length ≤ l.length := by have := bitsS_len l []; simpa [bitsP] using this
def OkR (r : S43) : Prop := r.f1.size ≤ 200 ∧ r.f2.length ≤ 50 ∧ ∀ x ∈ r.f2, OkE x.f2
end Go.Proofs.YtiaccdaeomaogaaDoor.F
