/- Texts of one claim, slimmed and merged by slim.py. -/
import Derived.Test.YtiaccdaeomaogaaDoorR4
import Derived.Test.YtiaccdaeomaogaaDoorR7
import Derived.Test.YtiaccdaeomaogaaDoorR11
import Derived.Test.YtiaccdaeomaogaaDoorR12
import Derived.Test.YtiaccdaeomaogaaDoorR14
namespace Go.Proofs.YtiaccdaeomaogaaDoor.F
open Go.RowKit Go.Proofs.YtiaccdaeomaogaaDoorW.PrintWords Go.Proofs.YtiaccdaeomaogaaDoorW.PrintLast Go.Proofs.YtiaccdaeomaogaaDoorW.PrintMore
attribute [local go_sem] max2_int min2_int max_two min_two max_three min_three max_four min_four   -- for this text's walks alone
set_option linter.unusedVariables false
set_option linter.unusedSimpArgs false
theorem info4d : (Tryd.prog.info? 4).map (fun i => (i.zero, i.size, i.bytes)) = some (some (.bool false), 1, 1) := by kernel_rfl
structure Mach (W w : World) (g : Nat) (nm : List ByteArray) (bs : List Bool) (en : List S69) (st : List Bool) (AN : Option Addr) (cN : Nat) (AB : Option Addr) (cB : Nat) (AE : Option Addr) (cE : Nat) (AS : Option Addr) (cS : Nat) : Prop where
  below : Below W.heap.size W w
  hg : W.heap.size ≤ g
  blk : w.heap[g]? = some (.cells #[.slice AN nm.length cN, .slice AB bs.length cB, .slice AE en.length cE, .slice AS st.length cS] 105 (0, 0))
  nms : Kd.R Kd.string 9 w W.heap.size (fun _ => True) (.slice AN nm.length cN) nm
  bts : Kd.R Kd.bool 4 w W.heap.size (fun _ => True) (.slice AB bs.length cB) bs
  env : Kd.C k69 W AE en.length en ∧ en.length ≤ cE
  stk : Kd.R Kd.bool 4 w W.heap.size (fun k => some k ≠ (Value.slice AB bs.length cB).ownBlock) (.slice AS st.length cS) st
def KeepT (w w' : World) (g : Nat) : Prop := w.heap.size ≤ w'.heap.size ∧ ∀ i o, i ≠ g → w.heap[i]? = some o → (∀ cells, o ≠ .cells cells 4 (0, 0)) → w'.heap[i]? = some o
theorem KeepT.refl (w : World) (g : Nat) : KeepT w w g := ⟨Nat.le_refl _, fun _ _ _ h _ => h⟩
theorem KeepT.below {w w1 : World} {g : Nat} (hb : Below w.heap.size w w1) : KeepT w w1 g := ⟨hb.size, fun i o _ h _ => (hb.block i (blk_lt h)).trans h⟩
theorem KeepT.trans {w w1 w2 : World} {g : Nat} (h : KeepT w w1 g) (k : KeepT w1 w2 g) : KeepT w w2 g := ⟨Nat.le_trans h.1 k.1, fun i o hi ho ht => k.2 i o hi (h.2 i o hi ho ht) ht⟩
section
variable {W w w1 : World} {g : Nat} {nm : List ByteArray} {bs : List Bool} {en : List S69} {st : List Bool} {AN : Option Addr} {cN : Nat} {AB : Option Addr} {cB : Nat} {AE : Option Addr} {cE : Nat} {AS : Option Addr} {cS : Nat}
theorem Mach.step (h : Mach W w g nm bs en st AN cN AB cB AE cE AS cS) (hb : Below w.heap.size w w1) : Mach W w1 g nm bs en st AN cN AB cB AE cE AS cS :=
  ⟨below_then h.below h.below.size hb, h.hg, blk_below h.blk hb, Kd.R_below h.nms hb, Kd.R_below h.bts hb, h.env, Kd.R_below h.stk hb⟩
theorem R_blk {e : Nat} {w : World} {base : Nat} {ok : Nat → Prop} {A : Option Addr} {c : Nat} {xs : List Bool} (h : Kd.R Kd.bool e w base ok (.slice A xs.length c) xs) (hn : 0 < xs.length) : ∃ sb, A = some ⟨sb, 0, none⟩ ∧ base ≤ sb ∧ ok sb ∧ ∃ cells, w.heap[sb]? = some (.cells cells e (0, 0)) := by
 have ho := Kd.own_of_R h
 rcases ho.2 with ⟨h1, _⟩ | ⟨sb, cap, cur, e1, h3, h4, _⟩
 ·injection h1 with _ h1 _; omega
 injection e1 with e1 _ e2
 subst e1
 exact ⟨sb, rfl, h3, h.1 sb rfl, cur, h4⟩
theorem Mach.turned {st' : List Bool} {AS' : Option Addr} {cS' : Nat} (h : Mach W w g nm bs en st AN cN AB cB AE cE AS cS) (hB : Below W.heap.size W w1) (hgr : w.grownBy w1 (Value.slice AS st.length cS).ownBlock)
  (hs : Kd.R Kd.bool 4 w1 W.heap.size (fun k => some k ≠ (Value.slice AB bs.length cB).ownBlock) (.slice AS' st'.length cS') st') :
  w1.heap[g]? = some (.cells #[.slice AN nm.length cN, .slice AB bs.length cB, .slice AE en.length cE, .slice AS st.length cS] 105 (0, 0)) ∧
  (∀ {w2 : World}, w2 = w1.setCell ⟨g, 3, none⟩ (.slice AS' st'.length cS') → Mach W w2 g nm bs en st' AN cN AB cB AE cE AS' cS' ∧ KeepT w w2 g) ∧
  (AS' = AS → cS' = cS → st'.length = st.length → Mach W w1 g nm bs en st' AN cN AB cB AE cE AS' cS' ∧ KeepT w w1 g) := by
 have hne : ∀ k, (Value.slice AS st.length cS).ownBlock = some k → ∃ cells, w.heap[k]? = some (.cells cells 4 (0, 0)) := fun k hk => own_typed (Kd.own_of_R h.stk) k hk
 have hgne : some g ≠ (Value.slice AS st.length cS).ownBlock := fun e => by
  obtain ⟨cells, hc⟩ := hne g e.symm
  rw [h.blk] at hc
  injection hc with hc
  injection hc with _ hc _
  cases hc
 have hblk := (hgr.block g (blk_lt h.blk) hgne).trans h.blk
 have hnm1 : Kd.R Kd.string 9 w1 W.heap.size (fun _ => True) (.slice AN nm.length cN) nm := by
  refine Kd.R_mono (Kd.R_grown (Kd.R_tight rfl h.nms) hgr (fun k hk e => ?_)) (fun _ _ => trivial)
  obtain ⟨cells, hc⟩ := hne k e.symm
  obtain ⟨cells', hc'⟩ := own_typed (Kd.own_of_R h.nms) k hk.symm
  rw [hc] at hc'
  injection hc' with hc'
  injection hc' with _ hc' _
  cases hc'
 have hbt1 : Kd.R Kd.bool 4 w1 W.heap.size (fun _ => True) (.slice AB bs.length cB) bs :=
  Kd.R_mono (Kd.R_grown (Kd.R_tight rfl h.bts) hgr (fun k hk e => h.stk.1 k e.symm hk)) (fun _ _ => trivial)
 have hkeep : KeepT w w1 g := ⟨hgr.size, fun i o hi ho ht => (hgr.block i (blk_lt ho) (fun e => by
  obtain ⟨cells, hc⟩ := hne i e.symm
  rw [ho] at hc
  injection hc with hc
  exact ht cells hc)).trans ho⟩
 have hlt : g < w1.heap.size := blk_lt hblk
 refine ⟨hblk, fun {w2} e => ?_, fun e1 e2 e3 => ?_⟩
 ·subst e
  have hset : ∀ k, k ≠ g → (w1.setCell ⟨g, 3, none⟩ (.slice AS' st'.length cS')).heap[k]? = w1.heap[k]? := fun k hk => Below.heap_setCell w1 ⟨g, 3, none⟩ _ k hk
  have b2 := blk_set hblk 3 (.slice AS' st'.length cS')
  have ty : ∀ {e : Nat} {α : Type} {enc : α → Value} {h1 : ∀ x, (enc x).oneCell' = true} {v : Value} {xs : List α} {ok : Nat → Prop}, (Kd.scalar enc h1).R e w1 W.heap.size ok v xs → e ≠ 105 → (Kd.scalar enc h1).R e (w1.setCell ⟨g, 3, none⟩ (.slice AS' st'.length cS')) W.heap.size ok v xs := fun {e α enc h1 v xs ok} hr hne => by
   refine Kd.R_mono (Kd.R_set hr hblk (fun q hq => ?_) 3 _) (fun _ h => h)
   have : q = e := by simpa [Kd.scalar] using hq
   rw [this]; exact hne
  exact ⟨⟨hB.setCell (p := ⟨g, 3, none⟩) h.hg _, h.hg, b2, ty hnm1 (by decide), ty hbt1 (by decide), h.env, ty hs (by decide)⟩, hkeep.trans ⟨by simp [World.setCell], fun i o hi ho _ => (hset i hi).trans ho⟩⟩
 subst e1 e2
 exact ⟨⟨hB, h.hg, by rw [e3]; exact hblk, hnm1, hbt1, h.env, hs⟩, hkeep⟩
end
def DoPost (W w : World) (g : Nat) (nm : List ByteArray) (bs : List Bool) (en : List S69) (AN : Option Addr) (cN : Nat) (AB : Option Addr) (cB : Nat) (AE : Option Addr) (cE : Nat) (st : List Bool) (e : Ending) (w' : World) : Prop :=
  e = .returned (.tuple #[]) ∧ ∃ AS cS, Mach W w' g nm bs en st AN cN AB cB AE cE AS cS ∧ KeepT w w' g
theorem cellAl {w : World} {o : Obj} {a : Addr} {v : Value} (h : w.cell? a = some v) : (w.alloc o).cell? a = some v := pw_cell_below (below_alloc (Below.refl _ _) _) h
theorem Mach.fresh {W w : World} {g : Nat} {nm : List ByteArray} {bs : List Bool} {en : List S69} {st : List Bool} {AN : Option Addr} {cN : Nat} {AB : Option Addr} {cB : Nat} {AE : Option Addr} {cE : Nat} {AS : Option Addr} {cS : Nat} (h : Mach W w g nm bs en st AN cN AB cB AE cE AS cS) (k : Nat) (hk : w.heap.size ≤ k) : some k ≠ (Value.slice AB bs.length cB).ownBlock := fun e => by
  obtain ⟨cells, hc⟩ := own_typed (Kd.own_of_R h.bts) k e.symm
  have := blk_lt hc
  omega
theorem R_take {w : World} {base e sb c : Nat} {ok : Nat → Prop} {xs : List Bool} (h : Kd.R Kd.bool e w base ok (.slice (some ⟨sb, 0, none⟩) xs.length c) xs) (k : Nat) (hk : k ≤ xs.length) : Kd.R Kd.bool e w base ok (.slice (some ⟨sb, 0, none⟩) (xs.take k).length c) (xs.take k) := by
 have ho := Kd.own_of_R h
 refine Kd.R_of_own ?_ (fun q hq => h.1 q (by simpa [Value.ownBlock] using hq))
 have hl : (xs.take k).length = k := by rw [List.length_take]; omega
 rw [hl]
 rcases ho.2 with ⟨h1, _⟩ | ⟨g, cap, cur, e1, h3, h4, h5, h6, h7, h8⟩
 ·cases h1
 injection e1 with e1 _ e2
 subst e2
 refine ⟨by rw [encs_length, hl]; omega, .inr ⟨g, c, cur, by rw [e1], h3, h4, by omega, h6, h7, ?_⟩⟩
 have := congrArg (List.take k) h8
 rw [List.take_take, Nat.mul_one, Nat.min_eq_left hk] at this
 rw [Nat.mul_one, this]
 simp [encs, List.map_take]
set_option maxHeartbeats 8000000 in
set_option maxRecDepth 100000 in
theorem do_not (W w : World) (g : Nat) (nm : List ByteArray) (bs : List Bool) (en : List S69) (st : List Bool) (AN : Option Addr) (cN : Nat) (AB : Option Addr) (cB : Nat) (AE : Option Addr) (cE : Nat) (AS : Option Addr) (cS : Nat) (xn : ByteArray) (e0 e1 : Int) (e2 : ByteArray) (AX : Option Addr) (lx cX : Nat) (h : Mach W w g nm bs en st AN cN AB cB AE cE AS cS) (L : Int) (hL : L = (st.length : Int) - 1) (h0 : 0 ≤ L) :
  Calls Tryd.prog 67 #[.pointer (some ⟨g, 0, none⟩), .agg #[.int .i64 9, .string xn, .int .i64 e0, .int .i64 e1, .string e2, .slice AX lx cX]] w (DoPost W w g nm bs en AN cN AB cB AE cE (st.set L.toNat (!rdOf false st L))) := by
 have HM := Aside0.mk h
 have hw : wrap64 ((st.length : Int) - 1) = L := by have := h.stk.2; have hm := (Kd.R_reads' h.stk).2.2.2.1; unfold wrap64; omega
 obtain ⟨sb, rfl, hsb, hok, hty⟩ := R_blk h.stk (by omega)
 obtain ⟨n, hn⟩ : ∃ n, n = st.length := ⟨_, rfl⟩
 have d0 : decide (0 ≤ L) = true := decide_eq_true h0
 have d1 : decide (L < (st.length : Int)) = true := decide_eq_true (by omega)
 have p0 := eq_true h0
 have p1 : (L < (st.length : Int)) = True := eq_true (by omega)
 have HL := Aside0.mk (And.intro hL h0)
 obtain ⟨a, ha⟩ : ∃ a, rdOf false st L = a := ⟨_, rfl⟩
 rw [ha]
 have HA := Aside0.mk ha
 clear h hL h0 hok hty ha hn
 go_enter Tryd.func67, Tryd.ntmps67
 go_wp2_with (first | ((with_reducible refine gate_dst (N := 3) rfl ?_); refine box_event ?hg (N := 3) ?hd (cs := #[.int .i64 9, .string xn, .int .i64 e0, .int .i64 e1, .string e2, .slice AX lx cX]) (t := 40) ?hr ?_; (case hd => rfl); (case hg => rfl); (case hr => first | (go_simp; done) | (go_simp; rfl)); intro gx hg4 w4 hbox hb4; have HM4 := Aside0.mk (Mach.step HM.out hb4); have HK4 := Aside0.mk hb4; have HX4 := Aside0.mk hbox; have hx0 : w4.cell? ⟨gx, 0, none⟩ = some (.int .i64 9) := (blk_cell hbox 0).trans rfl; have hx1 : w4.cell? ⟨gx, 1, none⟩ = some (.string xn) := (blk_cell hbox 1).trans rfl; have hm3 : w4.cell? ⟨g, 3, none⟩ = some (.slice (some ⟨sb, 0, none⟩) st.length cS) := (blk_cell HM4.out.blk 3).trans rfl; clear hb4 hbox hg4))
 have hR := Kd.R_cell false HM4.out.stk L HL.out.2 (by have := HL.out.1; omega)
 rw [HA.out] at hR
 obtain ⟨hcL, hfL⟩ := hR
 refine start_ (n := 15) (S := fun w' => w'.cell? ⟨g, 3, none⟩ = some (.slice (some ⟨sb, 0, none⟩) st.length cS) ∧ w'.cell? ⟨sb, L.toNat, none⟩ = some (.bool a)) (ds := [14]) #[Z,Z,Z,Z,Z,Z,Z,Z,Z,Z,Z,Z,Z,Z,Z] (by kernel_rfl) rfl rfl ⟨hm3, hcL⟩ (fun hHeld => ?_)
 refine qpk 0 (some 182) ?_
 refine qpk 1 (some 183) ?_
 refine qpk 2 (some 184) ?_
 refine qpk 4 (some 186) ?_
 refine qpk 5 (some 187) ?_
 refine qpk 6 (some 188) ?_
 refine qpk 7 (some 189) ?_
 refine qpk 9 (some 191) ?_
 refine qtk2 3 (some 185) hHeld ?_
 refine qtk2 8 (some 190) hHeld ?_
 refine qpk 10 (some 192) ?_
 refine qtk2 11 (some 193) hHeld ?_
 refine qpk 12 (some 194) ?_
 refine qpk 13 (some 195) ?_
 refine last_ (i := 14) (N := none) #[Y,Y,Y,Y,Y,Y,Y,Y,Y,Y,Y,Y,Y,Y,Y] rfl rfl (by kernel_rfl) (by decide) (fun K hK => ?_)
 refine skip_ (w1 := ?_) (by rfl) rfl ?_ ?_
 rotate_left
 ·go_simp
  rfl
 refine hK.out _ _ ?_
 clear hK K
 refine done_ (by kernel_rfl) ?_
 go_wp2
 first | go_end0 | ((try simp only [Exit.inBlock, Exit.then]); refine bodyPost_ret (results_none rfl _ _ _) rfl ?_)
 have HM5 := Mach.step HM4.out (Below.drew (Below.refl _ w4))
 obtain ⟨hs, hgr⟩ := Kd.R_put HM5.stk L (!a)
 have hT := Mach.turned (AS' := some ⟨sb, 0, none⟩) (cS' := cS) (st' := st.set L.toNat (!a)) HM5 (HM5.below.setCell (p := ⟨sb, L.toNat, none⟩) hsb _) hgr (by rw [List.length_set]; exact hs)
 obtain ⟨m1, m2⟩ := hT.2.2 rfl rfl (List.length_set)
 exact ⟨rfl, _, _, m1, (KeepT.below (Below.drew HK4.out)).trans m2⟩
set_option maxHeartbeats 8000000 in
set_option maxRecDepth 100000 in
theorem do_ld0 (W w : World) (g : Nat) (nm : List ByteArray) (bs : List Bool) (en : List S69) (st : List Bool) (AN : Option Addr) (cN : Nat) (AB : Option Addr) (cB : Nat) (AE : Option Addr) (cE : Nat) (AS : Option Addr) (cS : Nat) (xn : ByteArray) (e0 e1 : Int) (e2 : ByteArray) (AX : Option Addr) (lx cX : Nat) (h : Mach W w g nm bs en st AN cN AB cB AE cE AS cS) (k : Nat) (i : Int) (hix : slices_Index_string_string.f k nm xn = some i) (i0 : 0 ≤ i) (i1 : i < (bs.length : Int)) (hl : st.length < 1000000) :
  Calls Tryd.prog 67 #[.pointer (some ⟨g, 0, none⟩), .agg #[.int .i64 0, .string xn, .int .i64 e0, .int .i64 e1, .string e2, .slice AX lx cX]] w (DoPost W w g nm bs en AN cN AB cB AE cE (st ++ [rdOf false bs i])) := by
 have HM := Aside0.mk h
 have HLE := Aside0.mk hl
 obtain ⟨gb, rfl, hgb, _, _⟩ := R_blk h.bts (by omega)
 obtain ⟨c, hcc⟩ : ∃ c, rdOf false bs i = c := ⟨_, rfl⟩
 rw [hcc]
 have HCC := Aside0.mk hcc
 have HIX := Aside0.mk hix
 have HI := Aside0.mk (And.intro i0 i1)
 obtain ⟨st7, hst7⟩ : ∃ st7, st7 = st ++ [c] := ⟨_, rfl⟩
 rw [← hst7]
 have HST := Aside0.mk hst7
 clear h hl hcc hix i0 i1 hst7
 go_enter Tryd.func67, Tryd.ntmps67
 go_wp2_with (first | ((with_reducible refine gate_dst (N := 3) rfl ?_); refine box_event ?hg (N := 3) ?hd (cs := #[.int .i64 0, .string xn, .int .i64 e0, .int .i64 e1, .string e2, .slice AX lx cX]) (t := 40) ?hr ?_; (case hd => rfl); (case hg => rfl); (case hr => first | (go_simp; done) | (go_simp; rfl)); intro gx hg4 w4 hbox hb4; have HM4 := Aside0.mk (Mach.step HM.out hb4); have HK4 := Aside0.mk hb4; have HX4 := Aside0.mk hbox; have hx0 : w4.cell? ⟨gx, 0, none⟩ = some (.int .i64 0) := (blk_cell hbox 0).trans rfl; have hx1 : w4.cell? ⟨gx, 1, none⟩ = some (.string xn) := (blk_cell hbox 1).trans rfl; have hm3 : w4.cell? ⟨g, 3, none⟩ = some (.slice AS st.length cS) := (blk_cell HM4.out.blk 3).trans rfl; clear hb4 hbox hg4))
 have hRb := Kd.R_cell false HM4.out.bts i HI.out.1 HI.out.2
 rw [HCC.out] at hRb
 obtain ⟨hcB, _⟩ := hRb
 have HBit := Aside0.mk (machine_bit k g w4.drew AN cN nm gb bs.length cB (.slice AE en.length cE) (.slice AS st.length cS) xn i HM4.out.blk (Kd.R_reads' HM4.out.nms).2.2 (Kd.R_reads' HM4.out.nms).2.1 HIX.out HI.out.1 (by have := HI.out.2; omega))
 refine start_ (n := 18) (S := fun w' => w'.cell? ⟨g, 3, none⟩ = some (.slice AS st.length cS) ∧ w'.cell? ⟨gx, 1, none⟩ = some (.string xn) ∧ w'.cell? ⟨gb, i.toNat, none⟩ = some (.bool c)) (ds := [14, 17]) #[false, false, false, false, false, false, false, false, false, false, false, false, false, false, false, false, false, false] (by kernel_rfl) rfl rfl ⟨hm3, hx1, hcB⟩ (fun hHeld => ?_)
 refine qpk 0 (some 36) ?_
 refine qpk 1 (some 37) ?_
 refine qpk 2 (some 38) ?_
 refine qpk 3 (some 39) ?_
 refine qpk 5 (some 41) ?_
 refine qpk 6 (some 42) ?_
 refine qpk 11 (some 47) ?_
 refine qtk3 4 (some 40) hHeld ?_
 refine qtk3 7 (some 43) hHeld ?_
 refine one_ (i := 8) (N := some 44) #[Y,Y,Y,Y,Y,Y,Y,Y,Y,Z,Z,Y,Z,Z,Z,Z,Z,Z] rfl rfl (by kernel_rfl) (by decide) (fun K hK => ?_)
 refine goes_ Tryd.func68 (by kernel_rfl) rfl #[.pointer (some ⟨g, 0, none⟩), .string xn] (by rfl) rfl rfl (by simp only [List.map_toArray, List.map_cons, List.map_nil]; rfl) ?_
 with_reducible refine (HBit.out).mono ?_
 rintro e w6 ⟨rfl, ⟨n1, rfl⟩⟩
 refine ⟨_, rfl, ?_⟩
 have HM6 := Aside0.mk (Mach.step HM4.out (pw_below_drewN (Below.refl _ w4) (1 + n1)))
 have HK6 := Aside0.mk (pw_below_drewN HK4.out (1 + n1))
 refine hK.out _ _ ⟨hm3, hx1, hcB⟩ (fun hHeld => ?_)
 clear hK K
 refine norm_ (a' := ?_) ?_ ?_
 rotate_left
 ·show Act.put _ (some 44) _ = _
  simp only [Act.put, List.setIfInBounds_toArray, List.set_cons_zero, List.set_cons_succ, i64_w, i32_w]
  rfl
 refine qpk 9 (some 45) ?_
 refine qtk3 10 (some 46) hHeld ?_
 refine qpk 12 (some 48) ?_
 refine one_ (i := 13) (N := some 49) #[Y,Y,Y,Y,Y,Y,Y,Y,Y,Y,Y,Y,Y,Y,Z,Z,Z,Z] rfl rfl (by kernel_rfl) (by decide) (fun K hK => ?_)
 refine value_ (w1 := ?_) (v := ?_) (by rfl) rfl ?_ ?_
 rotate_left 2
 ·go_simp
  constructor
  ·rfl
  rfl
 refine hK.out _ _ ⟨(cellAl hm3), (cellAl hx1), (cellAl hcB)⟩ (fun hHeld => ?_)
 clear hK K
 refine norm_ (a' := ?_) ?_ ?_
 rotate_left
 ·show Act.put _ (some 49) _ = _
  simp only [Act.put, List.setIfInBounds_toArray, List.set_cons_zero, List.set_cons_succ, i64_w, i32_w]
  rfl
 refine last_ (i := 14) (N := some 50) #[Y,Y,Y,Y,Y,Y,Y,Y,Y,Y,Y,Y,Y,Y,Y,Z,Z,Z] rfl rfl (by kernel_rfl) (by decide) (fun K hK => ?_)
 refine Kd.R_append_step Kd.bool (w0 := W) W.heap.size (by rfl) (.tmp 40) (.tmp 49) 46 4 (.bool false) 1 rfl Tryd.underlying46 info4d rfl (by decide) (by decide) (.slice AS st.length cS) st c [.bool c] (fun k => some k ≠ (Value.slice (some ⟨gb, 0, none⟩) bs.length cB).ownBlock) (fun _ => False) rfl rfl rfl (fun _ hk => hk.elim) (fun k hk => Mach.fresh HM6.out k hk) HM6.out.stk HM6.out.below HM6.out.below.size (by have := HLE.out; simp; omega) ?_
 intro v7 w7 ho7 hb7 hg7 hat7
 rw [← HST.out] at ho7
 obtain ⟨AS7, cS7, rfl⟩ := Kd.R_slice ho7
 have b7 := (Mach.turned HM6.out hb7 hg7 ho7).1
 have c7 : w7.cell? ⟨g, 3, none⟩ = some (.slice AS st.length cS) := (blk_cell b7 3).trans rfl
 have f7 : w7.frozen? ⟨g, 3, none⟩ = false := blk_frozen b7 3
 have H7 := Aside0.mk (And.intro hb7 (And.intro hg7 ho7))
 clear hb7 hg7 ho7 hat7 b7
 refine hK.out _ _ ?_
 clear hK K
 refine norm_ (a' := ?_) ?_ ?_
 rotate_left
 ·show Act.put _ (some 50) _ = _
  simp only [Act.put, List.setIfInBounds_toArray, List.set_cons_zero, List.set_cons_succ, i64_w, i32_w]
  rfl
 refine qpk 15 (some 51) ?_
 refine qpk 16 (some 52) ?_
 refine last_ (i := 17) (N := none) #[Y,Y,Y,Y,Y,Y,Y,Y,Y,Y,Y,Y,Y,Y,Y,Y,Y,Y] rfl rfl (by kernel_rfl) (by decide) (fun K hK => ?_)
 refine skip_ (w1 := ?_) (by rfl) rfl ?_ ?_
 rotate_left
 ·go_simp
  rfl
 refine hK.out _ _ ?_
 clear hK K
 refine done_ (by kernel_rfl) ?_
 go_wp2
 first | go_end0 | ((try simp only [Exit.inBlock, Exit.then]); refine bodyPost_ret (results_none rfl _ _ _) rfl ?_)
 obtain ⟨m1, m2⟩ := (Mach.turned HM6.out H7.out.1 H7.out.2.1 H7.out.2.2).2.1 rfl
 exact ⟨rfl, _, _, m1, (KeepT.below HK6.out).trans m2⟩
set_option maxHeartbeats 8000000 in
set_option maxRecDepth 100000 in
theorem do_ld1 (W w : World) (g : Nat) (nm : List ByteArray) (bs : List Bool) (en : List S69) (st : List Bool) (AN : Option Addr) (cN : Nat) (AB : Option Addr) (cB : Nat) (AE : Option Addr) (cE : Nat) (AS : Option Addr) (cS : Nat) (xn : ByteArray) (e0 e1 : Int) (e2 : ByteArray) (AX : Option Addr) (lx cX : Nat) (h : Mach W w g nm bs en st AN cN AB cB AE cE AS cS) (k : Nat) (i : Int) (hix : slices_Index_string_string.f k nm xn = some i) (i0 : 0 ≤ i) (i1 : i < (bs.length : Int)) (hl : st.length < 1000000) :
  Calls Tryd.prog 67 #[.pointer (some ⟨g, 0, none⟩), .agg #[.int .i64 1, .string xn, .int .i64 e0, .int .i64 e1, .string e2, .slice AX lx cX]] w (DoPost W w g nm bs en AN cN AB cB AE cE (st ++ [!rdOf false bs i])) := by
 have HM := Aside0.mk h
 have HLE := Aside0.mk hl
 obtain ⟨gb, rfl, hgb, _, _⟩ := R_blk h.bts (by omega)
 obtain ⟨c, hcc⟩ : ∃ c, rdOf false bs i = c := ⟨_, rfl⟩
 rw [hcc]
 have HCC := Aside0.mk hcc
 have HIX := Aside0.mk hix
 have HI := Aside0.mk (And.intro i0 i1)
 obtain ⟨st7, hst7⟩ : ∃ st7, st7 = st ++ [(!c)] := ⟨_, rfl⟩
 rw [← hst7]
 have HST := Aside0.mk hst7
 clear h hl hcc hix i0 i1 hst7
 go_enter Tryd.func67, Tryd.ntmps67
 go_wp2_with (first | ((with_reducible refine gate_dst (N := 3) rfl ?_); refine box_event ?hg (N := 3) ?hd (cs := #[.int .i64 1, .string xn, .int .i64 e0, .int .i64 e1, .string e2, .slice AX lx cX]) (t := 40) ?hr ?_; (case hd => rfl); (case hg => rfl); (case hr => first | (go_simp; done) | (go_simp; rfl)); intro gx hg4 w4 hbox hb4; have HM4 := Aside0.mk (Mach.step HM.out hb4); have HK4 := Aside0.mk hb4; have HX4 := Aside0.mk hbox; have hx0 : w4.cell? ⟨gx, 0, none⟩ = some (.int .i64 1) := (blk_cell hbox 0).trans rfl; have hx1 : w4.cell? ⟨gx, 1, none⟩ = some (.string xn) := (blk_cell hbox 1).trans rfl; have hm3 : w4.cell? ⟨g, 3, none⟩ = some (.slice AS st.length cS) := (blk_cell HM4.out.blk 3).trans rfl; clear hb4 hbox hg4))
 have hRb := Kd.R_cell false HM4.out.bts i HI.out.1 HI.out.2
 rw [HCC.out] at hRb
 obtain ⟨hcB, _⟩ := hRb
 have HBit := Aside0.mk (machine_bit k g w4.drew AN cN nm gb bs.length cB (.slice AE en.length cE) (.slice AS st.length cS) xn i HM4.out.blk (Kd.R_reads' HM4.out.nms).2.2 (Kd.R_reads' HM4.out.nms).2.1 HIX.out HI.out.1 (by have := HI.out.2; omega))
 refine start_ (n := 18) (S := fun w' => w'.cell? ⟨g, 3, none⟩ = some (.slice AS st.length cS) ∧ w'.cell? ⟨gx, 1, none⟩ = some (.string xn) ∧ w'.cell? ⟨gb, i.toNat, none⟩ = some (.bool c)) (ds := [14, 17]) #[false, false, false, false, false, false, false, false, false, false, false, false, false, false, false, false, false, false] (by kernel_rfl) rfl rfl ⟨hm3, hx1, hcB⟩ (fun hHeld => ?_)
 refine qpk 0 (some 36) ?_
 refine qpk 1 (some 37) ?_
 refine qpk 2 (some 38) ?_
 refine qpk 3 (some 39) ?_
 refine qpk 5 (some 41) ?_
 refine qpk 6 (some 42) ?_
 refine qpk 11 (some 47) ?_
 refine qtk3 4 (some 40) hHeld ?_
 refine qtk3 7 (some 43) hHeld ?_
 refine one_ (i := 8) (N := some 44) #[Y,Y,Y,Y,Y,Y,Y,Y,Y,Z,Z,Y,Z,Z,Z,Z,Z,Z] rfl rfl (by kernel_rfl) (by decide) (fun K hK => ?_)
 refine goes_ Tryd.func68 (by kernel_rfl) rfl #[.pointer (some ⟨g, 0, none⟩), .string xn] (by rfl) rfl rfl (by simp only [List.map_toArray, List.map_cons, List.map_nil]; rfl) ?_
 with_reducible refine (HBit.out).mono ?_
 rintro e w6 ⟨rfl, ⟨n1, rfl⟩⟩
 refine ⟨_, rfl, ?_⟩
 have HM6 := Aside0.mk (Mach.step HM4.out (pw_below_drewN (Below.refl _ w4) (1 + n1)))
 have HK6 := Aside0.mk (pw_below_drewN HK4.out (1 + n1))
 refine hK.out _ _ ⟨hm3, hx1, hcB⟩ (fun hHeld => ?_)
 clear hK K
 refine norm_ (a' := ?_) ?_ ?_
 rotate_left
 ·show Act.put _ (some 44) _ = _
  simp only [Act.put, List.setIfInBounds_toArray, List.set_cons_zero, List.set_cons_succ, i64_w, i32_w]
  rfl
 refine qpk 9 (some 45) ?_
 refine qtk3 10 (some 46) hHeld ?_
 refine qpk 12 (some 48) ?_
 refine one_ (i := 13) (N := some 49) #[Y,Y,Y,Y,Y,Y,Y,Y,Y,Y,Y,Y,Y,Y,Z,Z,Z,Z] rfl rfl (by kernel_rfl) (by decide) (fun K hK => ?_)
 refine value_ (w1 := ?_) (v := ?_) (by rfl) rfl ?_ ?_
 rotate_left 2
 ·go_simp
  constructor
  ·rfl
  rfl
 refine hK.out _ _ ⟨(cellAl hm3), (cellAl hx1), (cellAl hcB)⟩ (fun hHeld => ?_)
 clear hK K
 refine norm_ (a' := ?_) ?_ ?_
 rotate_left
 ·show Act.put _ (some 49) _ = _
  simp only [Act.put, List.setIfInBounds_toArray, List.set_cons_zero, List.set_cons_succ, i64_w, i32_w]
  rfl
 refine last_ (i := 14) (N := some 50) #[Y,Y,Y,Y,Y,Y,Y,Y,Y,Y,Y,Y,Y,Y,Y,Z,Z,Z] rfl rfl (by kernel_rfl) (by decide) (fun K hK => ?_)
 refine Kd.R_append_step Kd.bool (w0 := W) W.heap.size (by rfl) (.tmp 40) (.tmp 49) 46 4 (.bool false) 1 rfl Tryd.underlying46 info4d rfl (by decide) (by decide) (.slice AS st.length cS) st (!c) [.bool (!c)] (fun k => some k ≠ (Value.slice (some ⟨gb, 0, none⟩) bs.length cB).ownBlock) (fun _ => False) rfl rfl rfl (fun _ hk => hk.elim) (fun k hk => Mach.fresh HM6.out k hk) HM6.out.stk HM6.out.below HM6.out.below.size (by have := HLE.out; simp; omega) ?_
 intro v7 w7 ho7 hb7 hg7 hat7
 rw [← HST.out] at ho7
 obtain ⟨AS7, cS7, rfl⟩ := Kd.R_slice ho7
 have b7 := (Mach.turned HM6.out hb7 hg7 ho7).1
 have c7 : w7.cell? ⟨g, 3, none⟩ = some (.slice AS st.length cS) := (blk_cell b7 3).trans rfl
 have f7 : w7.frozen? ⟨g, 3, none⟩ = false := blk_frozen b7 3
 have H7 := Aside0.mk (And.intro hb7 (And.intro hg7 ho7))
 clear hb7 hg7 ho7 hat7 b7
 refine hK.out _ _ ?_
 clear hK K
 refine norm_ (a' := ?_) ?_ ?_
 rotate_left
 ·show Act.put _ (some 50) _ = _
  simp only [Act.put, List.setIfInBounds_toArray, List.set_cons_zero, List.set_cons_succ, i64_w, i32_w]
  rfl
 refine qpk 15 (some 51) ?_
 refine qpk 16 (some 52) ?_
 refine last_ (i := 17) (N := none) #[Y,Y,Y,Y,Y,Y,Y,Y,Y,Y,Y,Y,Y,Y,Y,Y,Y,Y] rfl rfl (by kernel_rfl) (by decide) (fun K hK => ?_)
 refine skip_ (w1 := ?_) (by rfl) rfl ?_ ?_
 rotate_left
 ·go_simp
  rfl
 refine hK.out _ _ ?_
 clear hK K
 refine done_ (by kernel_rfl) ?_
 go_wp2
 first | go_end0 | ((try simp only [Exit.inBlock, Exit.then]); refine bodyPost_ret (results_none rfl _ _ _) rfl ?_)
 obtain ⟨m1, m2⟩ := (Mach.turned HM6.out H7.out.1 H7.out.2.1 H7.out.2.2).2.1 rfl
 exact ⟨rfl, _, _, m1, (KeepT.below HK6.out).trans m2⟩
set_option maxHeartbeats 8000000 in
set_option maxRecDepth 100000 in
theorem do_and3on (W w : World) (g : Nat) (nm : List ByteArray) (bs : List Bool) (en : List S69) (st : List Bool) (AN : Option Addr) (cN : Nat) (AB : Option Addr) (cB : Nat) (AE : Option Addr) (cE : Nat) (AS : Option Addr) (cS : Nat) (xn : ByteArray) (e0 e1 : Int) (e2 : ByteArray) (AX : Option Addr) (lx cX : Nat) (h : Mach W w g nm bs en st AN cN AB cB AE cE AS cS) (L : Int) (hL : L = (st.length : Int) - 1) (h0 : 0 ≤ L) (ha : rdOf false st L = true) (k : Nat) (i : Int) (hix : slices_Index_string_string.f k nm xn = some i) (i0 : 0 ≤ i) (i1 : i < (bs.length : Int)) :
  Calls Tryd.prog 67 #[.pointer (some ⟨g, 0, none⟩), .agg #[.int .i64 3, .string xn, .int .i64 e0, .int .i64 e1, .string e2, .slice AX lx cX]] w (DoPost W w g nm bs en AN cN AB cB AE cE (st.set L.toNat (rdOf false bs i))) := by
 have HM := Aside0.mk h
 obtain ⟨gb, rfl, hgb, _, _⟩ := R_blk h.bts (by omega)
 obtain ⟨c, hcc⟩ : ∃ c, rdOf false bs i = c := ⟨_, rfl⟩
 rw [hcc]
 have HCC := Aside0.mk hcc
 have HIX := Aside0.mk hix
 have HI := Aside0.mk (And.intro i0 i1)
 have hw : wrap64 ((st.length : Int) - 1) = L := by have hm := (Kd.R_reads' h.stk).2.2.2.1; unfold wrap64; omega
 obtain ⟨sb, rfl, hsb, hok, hty⟩ := R_blk h.stk (by omega)
 have d0 : decide (0 ≤ L) = true := decide_eq_true h0
 have d1 : decide (L < (st.length : Int)) = true := decide_eq_true (by omega)
 have p0 := eq_true h0
 have p1 : (L < (st.length : Int)) = True := eq_true (by omega)
 have HL := Aside0.mk (And.intro hL h0)
 have HA := Aside0.mk ha
 clear h hL h0 hok hty ha hcc hix i0 i1
 go_enter Tryd.func67, Tryd.ntmps67
 go_wp2_with (first | ((with_reducible refine gate_dst (N := 3) rfl ?_); refine box_event ?hg (N := 3) ?hd (cs := #[.int .i64 3, .string xn, .int .i64 e0, .int .i64 e1, .string e2, .slice AX lx cX]) (t := 40) ?hr ?_; (case hd => rfl); (case hg => rfl); (case hr => first | (go_simp; done) | (go_simp; rfl)); intro gx hg4 w4 hbox hb4; have HM4 := Aside0.mk (Mach.step HM.out hb4); have HK4 := Aside0.mk hb4; have HX4 := Aside0.mk hbox; have hx0 : w4.cell? ⟨gx, 0, none⟩ = some (.int .i64 3) := (blk_cell hbox 0).trans rfl; have hx1 : w4.cell? ⟨gx, 1, none⟩ = some (.string xn) := (blk_cell hbox 1).trans rfl; have hm3 : w4.cell? ⟨g, 3, none⟩ = some (.slice (some ⟨sb, 0, none⟩) st.length cS) := (blk_cell HM4.out.blk 3).trans rfl; clear hb4 hbox hg4))
 have hR := Kd.R_cell false HM4.out.stk L HL.out.2 (by have := HL.out.1; omega)
 rw [HA.out] at hR
 obtain ⟨hcL, hfL⟩ := hR
 have hRb := Kd.R_cell false HM4.out.bts i HI.out.1 HI.out.2
 rw [HCC.out] at hRb
 obtain ⟨hcB, _⟩ := hRb
 have HBit := Aside0.mk (machine_bit k g w4.drew AN cN nm gb bs.length cB (.slice AE en.length cE) (.slice (some ⟨sb, 0, none⟩) st.length cS) xn i HM4.out.blk (Kd.R_reads' HM4.out.nms).2.2 (Kd.R_reads' HM4.out.nms).2.1 HIX.out HI.out.1 (by have := HI.out.2; omega))
 refine start_ (n := 24) (S := fun w' => w'.cell? ⟨g, 3, none⟩ = some (.slice (some ⟨sb, 0, none⟩) st.length cS) ∧ w'.cell? ⟨sb, L.toNat, none⟩ = some (.bool true) ∧ w'.cell? ⟨gx, 1, none⟩ = some (.string xn) ∧ w'.cell? ⟨gb, i.toNat, none⟩ = some (.bool c)) (ds := [23]) #[false, false, false, false, false, false, false, false, false, false, false, false, false, false, false, false, false, false, false, false, false, false, false, false] (by kernel_rfl) rfl rfl ⟨hm3, hcL, hx1, hcB⟩ (fun hHeld => ?_)
 refine qpk 0 (some 78) ?_
 refine qpk 1 (some 79) ?_
 refine qpk 2 (some 80) ?_
 refine qpk 4 (some 82) ?_
 refine qpk 5 (some 83) ?_
 refine qpk 6 (some 84) ?_
 refine qpk 7 (some 85) ?_
 refine qpk 9 (some 87) ?_
 refine qtk4 3 (some 81) hHeld ?_
 refine qtk4 8 (some 86) hHeld ?_
 refine qpk 10 (some 88) ?_
 refine qtk4 11 (some 89) hHeld ?_
 refine qpk 12 (some 90) ?_
 refine qpk 13 (some 91) ?_
 refine qpk 14 (some 92) ?_
 refine qpk 19 (some 97) ?_
 refine qtk4 15 (some 93) hHeld ?_
 refine one_ (i := 16) (N := some 94) #[Y,Y,Y,Y,Y,Y,Y,Y,Y,Y,Y,Y,Y,Y,Y,Y,Y,Z,Z,Y,Z,Z,Z,Z] rfl rfl (by kernel_rfl) (by decide) (fun K hK => ?_)
 refine goes_ Tryd.func68 (by kernel_rfl) rfl #[.pointer (some ⟨g, 0, none⟩), .string xn] (by rfl) rfl rfl (by simp only [List.map_toArray, List.map_cons, List.map_nil]; rfl) ?_
 with_reducible refine (HBit.out).mono ?_
 rintro e w6 ⟨rfl, ⟨n1, rfl⟩⟩
 refine ⟨_, rfl, ?_⟩
 have HM6 := Aside0.mk (Mach.step HM4.out (pw_below_drewN (Below.refl _ w4) (1 + n1)))
 have HK6 := Aside0.mk (pw_below_drewN HK4.out (1 + n1))
 refine hK.out _ _ ⟨hm3, hcL, hx1, hcB⟩ (fun hHeld => ?_)
 clear hK K
 refine norm_ (a' := ?_) ?_ ?_
 rotate_left
 ·show Act.put _ (some 94) _ = _
  simp only [Act.put, List.setIfInBounds_toArray, List.set_cons_zero, List.set_cons_succ, i64_w, i32_w]
  rfl
 refine qpk 17 (some 95) ?_
 refine qtk4 18 (some 96) hHeld ?_
 refine qpk 20 (some 98) ?_
 refine qpk 21 (some 99) ?_
 refine qpk 22 (some 100) ?_
 refine last_ (i := 23) (N := none) #[Y,Y,Y,Y,Y,Y,Y,Y,Y,Y,Y,Y,Y,Y,Y,Y,Y,Y,Y,Y,Y,Y,Y,Y] rfl rfl (by kernel_rfl) (by decide) (fun K hK => ?_)
 refine skip_ (w1 := ?_) (by rfl) rfl ?_ ?_
 rotate_left
 ·go_simp
  rfl
 refine hK.out _ _ ?_
 clear hK K
 refine done_ (by kernel_rfl) ?_
 go_wp2
 first | go_end0 | ((try simp only [Exit.inBlock, Exit.then]); refine bodyPost_ret (results_none rfl _ _ _) rfl ?_)
 first
 | exact (by
   have HM5 := Mach.step HM4.out (pw_below_drewN (Below.refl _ w4) (1 + n1))
   obtain ⟨hs, hgr⟩ := Kd.R_put HM5.stk L c
   have hT := Mach.turned (AS' := some ⟨sb, 0, none⟩) (cS' := cS) (st' := st.set L.toNat c) HM5 (HM5.below.setCell (p := ⟨sb, L.toNat, none⟩) hsb _) hgr (by rw [List.length_set]; exact hs)
   obtain ⟨m1, m2⟩ := hT.2.2 rfl rfl (List.length_set)
   exact ⟨rfl, _, _, m1, (KeepT.below (pw_below_drewN HK4.out (1 + n1))).trans m2⟩)
 | exact (by
   have HM5 := Mach.step HM4.out (pw_below_drewN (Below.drew (Below.refl _ w4)) n1)
   obtain ⟨hs, hgr⟩ := Kd.R_put HM5.stk L c
   have hT := Mach.turned (AS' := some ⟨sb, 0, none⟩) (cS' := cS) (st' := st.set L.toNat c) HM5 (HM5.below.setCell (p := ⟨sb, L.toNat, none⟩) hsb _) hgr (by rw [List.length_set]; exact hs)
   obtain ⟨m1, m2⟩ := hT.2.2 rfl rfl (List.length_set)
   exact ⟨rfl, _, _, m1, (KeepT.below (pw_below_drewN (Below.drew HK4.out) n1)).trans m2⟩)
set_option maxHeartbeats 8000000 in
set_option maxRecDepth 100000 in
theorem do_and3off (W w : World) (g : Nat) (nm : List ByteArray) (bs : List Bool) (en : List S69) (st : List Bool) (AN : Option Addr) (cN : Nat) (AB : Option Addr) (cB : Nat) (AE : Option Addr) (cE : Nat) (AS : Option Addr) (cS : Nat) (xn : ByteArray) (e0 e1 : Int) (e2 : ByteArray) (AX : Option Addr) (lx cX : Nat) (h : Mach W w g nm bs en st AN cN AB cB AE cE AS cS) (L : Int) (hL : L = (st.length : Int) - 1) (h0 : 0 ≤ L) (ha : rdOf false st L = false) :
  Calls Tryd.prog 67 #[.pointer (some ⟨g, 0, none⟩), .agg #[.int .i64 3, .string xn, .int .i64 e0, .int .i64 e1, .string e2, .slice AX lx cX]] w (DoPost W w g nm bs en AN cN AB cB AE cE (st.set L.toNat (false))) := by
 have HM := Aside0.mk h
 have hw : wrap64 ((st.length : Int) - 1) = L := by have hm := (Kd.R_reads' h.stk).2.2.2.1; unfold wrap64; omega
 obtain ⟨sb, rfl, hsb, hok, hty⟩ := R_blk h.stk (by omega)
 have d0 : decide (0 ≤ L) = true := decide_eq_true h0
 have d1 : decide (L < (st.length : Int)) = true := decide_eq_true (by omega)
 have p0 := eq_true h0
 have p1 : (L < (st.length : Int)) = True := eq_true (by omega)
 have HL := Aside0.mk (And.intro hL h0)
 have HA := Aside0.mk ha
 clear h hL h0 hok hty ha
 go_enter Tryd.func67, Tryd.ntmps67
 go_wp2_with (first | ((with_reducible refine gate_dst (N := 3) rfl ?_); refine box_event ?hg (N := 3) ?hd (cs := #[.int .i64 3, .string xn, .int .i64 e0, .int .i64 e1, .string e2, .slice AX lx cX]) (t := 40) ?hr ?_; (case hd => rfl); (case hg => rfl); (case hr => first | (go_simp; done) | (go_simp; rfl)); intro gx hg4 w4 hbox hb4; have HM4 := Aside0.mk (Mach.step HM.out hb4); have HK4 := Aside0.mk hb4; have HX4 := Aside0.mk hbox; have hx0 : w4.cell? ⟨gx, 0, none⟩ = some (.int .i64 3) := (blk_cell hbox 0).trans rfl; have hx1 : w4.cell? ⟨gx, 1, none⟩ = some (.string xn) := (blk_cell hbox 1).trans rfl; have hm3 : w4.cell? ⟨g, 3, none⟩ = some (.slice (some ⟨sb, 0, none⟩) st.length cS) := (blk_cell HM4.out.blk 3).trans rfl; clear hb4 hbox hg4))
 have hR := Kd.R_cell false HM4.out.stk L HL.out.2 (by have := HL.out.1; omega)
 rw [HA.out] at hR
 obtain ⟨hcL, hfL⟩ := hR
 refine start_ (n := 24) (S := fun w' => w'.cell? ⟨g, 3, none⟩ = some (.slice (some ⟨sb, 0, none⟩) st.length cS) ∧ w'.cell? ⟨sb, L.toNat, none⟩ = some (.bool false)) (ds := [23]) #[Z,Z,Z,Z,Z,Z,Z,Z,Z,Z,Z,Z,Z,Z,Z,Z,Z,Z,Z,Z,Z,Z,Z,Z] (by kernel_rfl) rfl rfl ⟨hm3, hcL⟩ (fun hHeld => ?_)
 refine qpk 0 (some 78) ?_
 refine qpk 1 (some 79) ?_
 refine qpk 2 (some 80) ?_
 refine qpk 4 (some 82) ?_
 refine qpk 5 (some 83) ?_
 refine qpk 6 (some 84) ?_
 refine qpk 7 (some 85) ?_
 refine qpk 9 (some 87) ?_
 refine qtk2 3 (some 81) hHeld ?_
 refine qtk2 8 (some 86) hHeld ?_
 refine qpk 10 (some 88) ?_
 refine qtk2 11 (some 89) hHeld ?_
 refine qpk 12 (some 90) ?_
 refine qpx 13 (some 91) ?_
 refine qpx 14 (some 92) ?_
 refine qpx 15 (some 93) ?_
 refine qpx 16 (some 94) ?_
 refine qpx 17 (some 95) ?_
 refine qpx 18 (some 96) ?_
 refine qpx 19 (some 97) ?_
 refine qpx 20 (some 98) ?_
 refine qpk 21 (some 99) ?_
 refine qpk 22 (some 100) ?_
 refine last_ (i := 23) (N := none) #[Y,Y,Y,Y,Y,Y,Y,Y,Y,Y,Y,Y,Y,Y,Y,Y,Y,Y,Y,Y,Y,Y,Y,Y] rfl rfl (by kernel_rfl) (by decide) (fun K hK => ?_)
 refine skip_ (w1 := ?_) (by rfl) rfl ?_ ?_
 rotate_left
 ·go_simp
  rfl
 refine hK.out _ _ ?_
 clear hK K
 refine done_ (by kernel_rfl) ?_
 go_wp2
 first | go_end0 | ((try simp only [Exit.inBlock, Exit.then]); refine bodyPost_ret (results_none rfl _ _ _) rfl ?_)
 exact (by
  have HM5 := Mach.step HM4.out (Below.drew (Below.refl _ w4))
  obtain ⟨hs, hgr⟩ := Kd.R_put HM5.stk L false
  have hT := Mach.turned (AS' := some ⟨sb, 0, none⟩) (cS' := cS) (st' := st.set L.toNat false) HM5 (HM5.below.setCell (p := ⟨sb, L.toNat, none⟩) hsb _) hgr (by rw [List.length_set]; exact hs)
  obtain ⟨m1, m2⟩ := hT.2.2 rfl rfl (List.length_set)
  exact ⟨rfl, _, _, m1, (KeepT.below (Below.drew HK4.out)).trans m2⟩)
set_option maxHeartbeats 8000000 in
set_option maxRecDepth 100000 in
theorem do_and4on (W w : World) (g : Nat) (nm : List ByteArray) (bs : List Bool) (en : List S69) (st : List Bool) (AN : Option Addr) (cN : Nat) (AB : Option Addr) (cB : Nat) (AE : Option Addr) (cE : Nat) (AS : Option Addr) (cS : Nat) (xn : ByteArray) (e0 e1 : Int) (e2 : ByteArray) (AX : Option Addr) (lx cX : Nat) (h : Mach W w g nm bs en st AN cN AB cB AE cE AS cS) (L : Int) (hL : L = (st.length : Int) - 1) (h0 : 0 ≤ L) (ha : rdOf false st L = true) (k : Nat) (i : Int) (hix : slices_Index_string_string.f k nm xn = some i) (i0 : 0 ≤ i) (i1 : i < (bs.length : Int)) :
  Calls Tryd.prog 67 #[.pointer (some ⟨g, 0, none⟩), .agg #[.int .i64 4, .string xn, .int .i64 e0, .int .i64 e1, .string e2, .slice AX lx cX]] w (DoPost W w g nm bs en AN cN AB cB AE cE (st.set L.toNat ((!rdOf false bs i)))) := by
 have HM := Aside0.mk h
 obtain ⟨gb, rfl, hgb, _, _⟩ := R_blk h.bts (by omega)
 obtain ⟨c, hcc⟩ : ∃ c, rdOf false bs i = c := ⟨_, rfl⟩
 rw [hcc]
 have HCC := Aside0.mk hcc
 have HIX := Aside0.mk hix
 have HI := Aside0.mk (And.intro i0 i1)
 have hw : wrap64 ((st.length : Int) - 1) = L := by have hm := (Kd.R_reads' h.stk).2.2.2.1; unfold wrap64; omega
 obtain ⟨sb, rfl, hsb, hok, hty⟩ := R_blk h.stk (by omega)
 have d0 : decide (0 ≤ L) = true := decide_eq_true h0
 have d1 : decide (L < (st.length : Int)) = true := decide_eq_true (by omega)
 have p0 := eq_true h0
 have p1 : (L < (st.length : Int)) = True := eq_true (by omega)
 have HL := Aside0.mk (And.intro hL h0)
 have HA := Aside0.mk ha
 clear h hL h0 hok hty ha hcc hix i0 i1
 go_enter Tryd.func67, Tryd.ntmps67
 go_wp2_with (first | ((with_reducible refine gate_dst (N := 3) rfl ?_); refine box_event ?hg (N := 3) ?hd (cs := #[.int .i64 4, .string xn, .int .i64 e0, .int .i64 e1, .string e2, .slice AX lx cX]) (t := 40) ?hr ?_; (case hd => rfl); (case hg => rfl); (case hr => first | (go_simp; done) | (go_simp; rfl)); intro gx hg4 w4 hbox hb4; have HM4 := Aside0.mk (Mach.step HM.out hb4); have HK4 := Aside0.mk hb4; have HX4 := Aside0.mk hbox; have hx0 : w4.cell? ⟨gx, 0, none⟩ = some (.int .i64 4) := (blk_cell hbox 0).trans rfl; have hx1 : w4.cell? ⟨gx, 1, none⟩ = some (.string xn) := (blk_cell hbox 1).trans rfl; have hm3 : w4.cell? ⟨g, 3, none⟩ = some (.slice (some ⟨sb, 0, none⟩) st.length cS) := (blk_cell HM4.out.blk 3).trans rfl; clear hb4 hbox hg4))
 have hR := Kd.R_cell false HM4.out.stk L HL.out.2 (by have := HL.out.1; omega)
 rw [HA.out] at hR
 obtain ⟨hcL, hfL⟩ := hR
 have hRb := Kd.R_cell false HM4.out.bts i HI.out.1 HI.out.2
 rw [HCC.out] at hRb
 obtain ⟨hcB, _⟩ := hRb
 have HBit := Aside0.mk (machine_bit k g w4.drew AN cN nm gb bs.length cB (.slice AE en.length cE) (.slice (some ⟨sb, 0, none⟩) st.length cS) xn i HM4.out.blk (Kd.R_reads' HM4.out.nms).2.2 (Kd.R_reads' HM4.out.nms).2.1 HIX.out HI.out.1 (by have := HI.out.2; omega))
 refine start_ (n := 24) (S := fun w' => w'.cell? ⟨g, 3, none⟩ = some (.slice (some ⟨sb, 0, none⟩) st.length cS) ∧ w'.cell? ⟨sb, L.toNat, none⟩ = some (.bool true) ∧ w'.cell? ⟨gx, 1, none⟩ = some (.string xn) ∧ w'.cell? ⟨gb, i.toNat, none⟩ = some (.bool c)) (ds := [23]) #[false, false, false, false, false, false, false, false, false, false, false, false, false, false, false, false, false, false, false, false, false, false, false, false] (by kernel_rfl) rfl rfl ⟨hm3, hcL, hx1, hcB⟩ (fun hHeld => ?_)
 refine qpk 0 (some 78) ?_
 refine qpk 1 (some 79) ?_
 refine qpk 2 (some 80) ?_
 refine qpk 4 (some 82) ?_
 refine qpk 5 (some 83) ?_
 refine qpk 6 (some 84) ?_
 refine qpk 7 (some 85) ?_
 refine qpk 9 (some 87) ?_
 refine qtk4 3 (some 81) hHeld ?_
 refine qtk4 8 (some 86) hHeld ?_
 refine qpk 10 (some 88) ?_
 refine qtk4 11 (some 89) hHeld ?_
 refine qpk 12 (some 90) ?_
 refine qpk 13 (some 91) ?_
 refine qpk 14 (some 92) ?_
 refine qpk 19 (some 97) ?_
 refine qtk4 15 (some 93) hHeld ?_
 refine one_ (i := 16) (N := some 94) #[Y,Y,Y,Y,Y,Y,Y,Y,Y,Y,Y,Y,Y,Y,Y,Y,Y,Z,Z,Y,Z,Z,Z,Z] rfl rfl (by kernel_rfl) (by decide) (fun K hK => ?_)
 refine goes_ Tryd.func68 (by kernel_rfl) rfl #[.pointer (some ⟨g, 0, none⟩), .string xn] (by rfl) rfl rfl (by simp only [List.map_toArray, List.map_cons, List.map_nil]; rfl) ?_
 with_reducible refine (HBit.out).mono ?_
 rintro e w6 ⟨rfl, ⟨n1, rfl⟩⟩
 refine ⟨_, rfl, ?_⟩
 have HM6 := Aside0.mk (Mach.step HM4.out (pw_below_drewN (Below.refl _ w4) (1 + n1)))
 have HK6 := Aside0.mk (pw_below_drewN HK4.out (1 + n1))
 refine hK.out _ _ ⟨hm3, hcL, hx1, hcB⟩ (fun hHeld => ?_)
 clear hK K
 refine norm_ (a' := ?_) ?_ ?_
 rotate_left
 ·show Act.put _ (some 94) _ = _
  simp only [Act.put, List.setIfInBounds_toArray, List.set_cons_zero, List.set_cons_succ, i64_w, i32_w]
  rfl
 refine qpk 17 (some 95) ?_
 refine qtk4 18 (some 96) hHeld ?_
 refine qpk 20 (some 98) ?_
 refine qpk 21 (some 99) ?_
 refine qpk 22 (some 100) ?_
 refine last_ (i := 23) (N := none) #[Y,Y,Y,Y,Y,Y,Y,Y,Y,Y,Y,Y,Y,Y,Y,Y,Y,Y,Y,Y,Y,Y,Y,Y] rfl rfl (by kernel_rfl) (by decide) (fun K hK => ?_)
 refine skip_ (w1 := ?_) (by rfl) rfl ?_ ?_
 rotate_left
 ·go_simp
  rfl
 refine hK.out _ _ ?_
 clear hK K
 refine done_ (by kernel_rfl) ?_
 go_wp2
 first | go_end0 | ((try simp only [Exit.inBlock, Exit.then]); refine bodyPost_ret (results_none rfl _ _ _) rfl ?_)
 first
 | exact (by
   have HM5 := Mach.step HM4.out (pw_below_drewN (Below.refl _ w4) (1 + n1))
   obtain ⟨hs, hgr⟩ := Kd.R_put HM5.stk L (!c)
   have hT := Mach.turned (AS' := some ⟨sb, 0, none⟩) (cS' := cS) (st' := st.set L.toNat (!c)) HM5 (HM5.below.setCell (p := ⟨sb, L.toNat, none⟩) hsb _) hgr (by rw [List.length_set]; exact hs)
   obtain ⟨m1, m2⟩ := hT.2.2 rfl rfl (List.length_set)
   exact ⟨rfl, _, _, m1, (KeepT.below (pw_below_drewN HK4.out (1 + n1))).trans m2⟩)
 | exact (by
   have HM5 := Mach.step HM4.out (pw_below_drewN (Below.drew (Below.refl _ w4)) n1)
   obtain ⟨hs, hgr⟩ := Kd.R_put HM5.stk L (!c)
   have hT := Mach.turned (AS' := some ⟨sb, 0, none⟩) (cS' := cS) (st' := st.set L.toNat (!c)) HM5 (HM5.below.setCell (p := ⟨sb, L.toNat, none⟩) hsb _) hgr (by rw [List.length_set]; exact hs)
   obtain ⟨m1, m2⟩ := hT.2.2 rfl rfl (List.length_set)
   exact ⟨rfl, _, _, m1, (KeepT.below (pw_below_drewN (Below.drew HK4.out) n1)).trans m2⟩)
set_option maxHeartbeats 8000000 in
set_option maxRecDepth 100000 in
theorem do_and4off (W w : World) (g : Nat) (nm : List ByteArray) (bs : List Bool) (en : List S69) (st : List Bool) (AN : Option Addr) (cN : Nat) (AB : Option Addr) (cB : Nat) (AE : Option Addr) (cE : Nat) (AS : Option Addr) (cS : Nat) (xn : ByteArray) (e0 e1 : Int) (e2 : ByteArray) (AX : Option Addr) (lx cX : Nat) (h : Mach W w g nm bs en st AN cN AB cB AE cE AS cS) (L : Int) (hL : L = (st.length : Int) - 1) (h0 : 0 ≤ L) (ha : rdOf false st L = false) :
  Calls Tryd.prog 67 #[.pointer (some ⟨g, 0, none⟩), .agg #[.int .i64 4, .string xn, .int .i64 e0, .int .i64 e1, .string e2, .slice AX lx cX]] w (DoPost W w g nm bs en AN cN AB cB AE cE (st.set L.toNat (false))) := by
 have HM := Aside0.mk h
 have hw : wrap64 ((st.length : Int) - 1) = L := by have hm := (Kd.R_reads' h.stk).2.2.2.1; unfold wrap64; omega
 obtain ⟨sb, rfl, hsb, hok, hty⟩ := R_blk h.stk (by omega)
 have d0 : decide (0 ≤ L) = true := decide_eq_true h0
 have d1 : decide (L < (st.length : Int)) = true := decide_eq_true (by omega)
 have p0 := eq_true h0
 have p1 : (L < (st.length : Int)) = True := eq_true (by omega)
 have HL := Aside0.mk (And.intro hL h0)
 have HA := Aside0.mk ha
 clear h hL h0 hok hty ha
 go_enter Tryd.func67, Tryd.ntmps67
 go_wp2_with (first | ((with_reducible refine gate_dst (N := 3) rfl ?_); refine box_event ?hg (N := 3) ?hd (cs := #[.int .i64 4, .string xn, .int .i64 e0, .int .i64 e1, .string e2, .slice AX lx cX]) (t := 40) ?hr ?_; (case hd => rfl); (case hg => rfl); (case hr => first | (go_simp; done) | (go_simp; rfl)); intro gx hg4 w4 hbox hb4; have HM4 := Aside0.mk (Mach.step HM.out hb4); have HK4 := Aside0.mk hb4; have HX4 := Aside0.mk hbox; have hx0 : w4.cell? ⟨gx, 0, none⟩ = some (.int .i64 4) := (blk_cell hbox 0).trans rfl; have hx1 : w4.cell? ⟨gx, 1, none⟩ = some (.string xn) := (blk_cell hbox 1).trans rfl; have hm3 : w4.cell? ⟨g, 3, none⟩ = some (.slice (some ⟨sb, 0, none⟩) st.length cS) := (blk_cell HM4.out.blk 3).trans rfl; clear hb4 hbox hg4))
 have hR := Kd.R_cell false HM4.out.stk L HL.out.2 (by have := HL.out.1; omega)
 rw [HA.out] at hR
 obtain ⟨hcL, hfL⟩ := hR
 refine start_ (n := 24) (S := fun w' => w'.cell? ⟨g, 3, none⟩ = some (.slice (some ⟨sb, 0, none⟩) st.length cS) ∧ w'.cell? ⟨sb, L.toNat, none⟩ = some (.bool false)) (ds := [23]) #[Z,Z,Z,Z,Z,Z,Z,Z,Z,Z,Z,Z,Z,Z,Z,Z,Z,Z,Z,Z,Z,Z,Z,Z] (by kernel_rfl) rfl rfl ⟨hm3, hcL⟩ (fun hHeld => ?_)
 refine qpk 0 (some 78) ?_
 refine qpk 1 (some 79) ?_
 refine qpk 2 (some 80) ?_
 refine qpk 4 (some 82) ?_
 refine qpk 5 (some 83) ?_
 refine qpk 6 (some 84) ?_
 refine qpk 7 (some 85) ?_
 refine qpk 9 (some 87) ?_
 refine qtk2 3 (some 81) hHeld ?_
 refine qtk2 8 (some 86) hHeld ?_
 refine qpk 10 (some 88) ?_
 refine qtk2 11 (some 89) hHeld ?_
 refine qpk 12 (some 90) ?_
 refine qpx 13 (some 91) ?_
 refine qpx 14 (some 92) ?_
 refine qpx 15 (some 93) ?_
 refine qpx 16 (some 94) ?_
 refine qpx 17 (some 95) ?_
 refine qpx 18 (some 96) ?_
 refine qpx 19 (some 97) ?_
 refine qpx 20 (some 98) ?_
 refine qpk 21 (some 99) ?_
 refine qpk 22 (some 100) ?_
 refine last_ (i := 23) (N := none) #[Y,Y,Y,Y,Y,Y,Y,Y,Y,Y,Y,Y,Y,Y,Y,Y,Y,Y,Y,Y,Y,Y,Y,Y] rfl rfl (by kernel_rfl) (by decide) (fun K hK => ?_)
 refine skip_ (w1 := ?_) (by rfl) rfl ?_ ?_
 rotate_left
 ·go_simp
  rfl
 refine hK.out _ _ ?_
 clear hK K
 refine done_ (by kernel_rfl) ?_
 go_wp2
 first | go_end0 | ((try simp only [Exit.inBlock, Exit.then]); refine bodyPost_ret (results_none rfl _ _ _) rfl ?_)
 exact (by
  have HM5 := Mach.step HM4.out (Below.drew (Below.refl _ w4))
  obtain ⟨hs, hgr⟩ := Kd.R_put HM5.stk L false
  have hT := Mach.turned (AS' := some ⟨sb, 0, none⟩) (cS' := cS) (st' := st.set L.toNat false) HM5 (HM5.below.setCell (p := ⟨sb, L.toNat, none⟩) hsb _) hgr (by rw [List.length_set]; exact hs)
  obtain ⟨m1, m2⟩ := hT.2.2 rfl rfl (List.length_set)
  exact ⟨rfl, _, _, m1, (KeepT.below (Below.drew HK4.out)).trans m2⟩)
set_option maxHeartbeats 8000000 in
set_option maxRecDepth 100000 in
theorem do_or5on (W w : World) (g : Nat) (nm : List ByteArray) (bs : List Bool) (en : List S69) (st : List Bool) (AN : Option Addr) (cN : Nat) (AB : Option Addr) (cB : Nat) (AE : Option Addr) (cE : Nat) (AS : Option Addr) (cS : Nat) (xn : ByteArray) (e0 e1 : Int) (e2 : ByteArray) (AX : Option Addr) (lx cX : Nat) (h : Mach W w g nm bs en st AN cN AB cB AE cE AS cS) (L : Int) (hL : L = (st.length : Int) - 1) (h0 : 0 ≤ L) (ha : rdOf false st L = false) (k : Nat) (i : Int) (hix : slices_Index_string_string.f k nm xn = some i) (i0 : 0 ≤ i) (i1 : i < (bs.length : Int)) :
  Calls Tryd.prog 67 #[.pointer (some ⟨g, 0, none⟩), .agg #[.int .i64 5, .string xn, .int .i64 e0, .int .i64 e1, .string e2, .slice AX lx cX]] w (DoPost W w g nm bs en AN cN AB cB AE cE (st.set L.toNat (rdOf false bs i))) := by
 have HM := Aside0.mk h
 obtain ⟨gb, rfl, hgb, _, _⟩ := R_blk h.bts (by omega)
 obtain ⟨c, hcc⟩ : ∃ c, rdOf false bs i = c := ⟨_, rfl⟩
 rw [hcc]
 have HCC := Aside0.mk hcc
 have HIX := Aside0.mk hix
 have HI := Aside0.mk (And.intro i0 i1)
 have hw : wrap64 ((st.length : Int) - 1) = L := by have hm := (Kd.R_reads' h.stk).2.2.2.1; unfold wrap64; omega
 obtain ⟨sb, rfl, hsb, hok, hty⟩ := R_blk h.stk (by omega)
 have d0 : decide (0 ≤ L) = true := decide_eq_true h0
 have d1 : decide (L < (st.length : Int)) = true := decide_eq_true (by omega)
 have p0 := eq_true h0
 have p1 : (L < (st.length : Int)) = True := eq_true (by omega)
 have HL := Aside0.mk (And.intro hL h0)
 have HA := Aside0.mk ha
 clear h hL h0 hok hty ha hcc hix i0 i1
 go_enter Tryd.func67, Tryd.ntmps67
 go_wp2_with (first | ((with_reducible refine gate_dst (N := 3) rfl ?_); refine box_event ?hg (N := 3) ?hd (cs := #[.int .i64 5, .string xn, .int .i64 e0, .int .i64 e1, .string e2, .slice AX lx cX]) (t := 40) ?hr ?_; (case hd => rfl); (case hg => rfl); (case hr => first | (go_simp; done) | (go_simp; rfl)); intro gx hg4 w4 hbox hb4; have HM4 := Aside0.mk (Mach.step HM.out hb4); have HK4 := Aside0.mk hb4; have HX4 := Aside0.mk hbox; have hx0 : w4.cell? ⟨gx, 0, none⟩ = some (.int .i64 5) := (blk_cell hbox 0).trans rfl; have hx1 : w4.cell? ⟨gx, 1, none⟩ = some (.string xn) := (blk_cell hbox 1).trans rfl; have hm3 : w4.cell? ⟨g, 3, none⟩ = some (.slice (some ⟨sb, 0, none⟩) st.length cS) := (blk_cell HM4.out.blk 3).trans rfl; clear hb4 hbox hg4))
 have hR := Kd.R_cell false HM4.out.stk L HL.out.2 (by have := HL.out.1; omega)
 rw [HA.out] at hR
 obtain ⟨hcL, hfL⟩ := hR
 have hRb := Kd.R_cell false HM4.out.bts i HI.out.1 HI.out.2
 rw [HCC.out] at hRb
 obtain ⟨hcB, _⟩ := hRb
 have HBit := Aside0.mk (machine_bit k g w4.drew AN cN nm gb bs.length cB (.slice AE en.length cE) (.slice (some ⟨sb, 0, none⟩) st.length cS) xn i HM4.out.blk (Kd.R_reads' HM4.out.nms).2.2 (Kd.R_reads' HM4.out.nms).2.1 HIX.out HI.out.1 (by have := HI.out.2; omega))
 refine start_ (n := 24) (S := fun w' => w'.cell? ⟨g, 3, none⟩ = some (.slice (some ⟨sb, 0, none⟩) st.length cS) ∧ w'.cell? ⟨sb, L.toNat, none⟩ = some (.bool false) ∧ w'.cell? ⟨gx, 1, none⟩ = some (.string xn) ∧ w'.cell? ⟨gb, i.toNat, none⟩ = some (.bool c)) (ds := [23]) #[false, false, false, false, false, false, false, false, false, false, false, false, false, false, false, false, false, false, false, false, false, false, false, false] (by kernel_rfl) rfl rfl ⟨hm3, hcL, hx1, hcB⟩ (fun hHeld => ?_)
 refine qpk 0 (some 101) ?_
 refine qpk 1 (some 102) ?_
 refine qpk 2 (some 103) ?_
 refine qpk 4 (some 105) ?_
 refine qpk 5 (some 106) ?_
 refine qpk 6 (some 107) ?_
 refine qpk 7 (some 108) ?_
 refine qpk 9 (some 110) ?_
 refine qtk4 3 (some 104) hHeld ?_
 refine qtk4 8 (some 109) hHeld ?_
 refine qpk 10 (some 111) ?_
 refine qtk4 11 (some 112) hHeld ?_
 refine qpk 12 (some 113) ?_
 refine qpk 13 (some 114) ?_
 refine qpk 14 (some 115) ?_
 refine qpk 19 (some 120) ?_
 refine qtk4 15 (some 116) hHeld ?_
 refine one_ (i := 16) (N := some 117) #[Y,Y,Y,Y,Y,Y,Y,Y,Y,Y,Y,Y,Y,Y,Y,Y,Y,Z,Z,Y,Z,Z,Z,Z] rfl rfl (by kernel_rfl) (by decide) (fun K hK => ?_)
 refine goes_ Tryd.func68 (by kernel_rfl) rfl #[.pointer (some ⟨g, 0, none⟩), .string xn] (by rfl) rfl rfl (by simp only [List.map_toArray, List.map_cons, List.map_nil]; rfl) ?_
 with_reducible refine (HBit.out).mono ?_
 rintro e w6 ⟨rfl, ⟨n1, rfl⟩⟩
 refine ⟨_, rfl, ?_⟩
 have HM6 := Aside0.mk (Mach.step HM4.out (pw_below_drewN (Below.refl _ w4) (1 + n1)))
 have HK6 := Aside0.mk (pw_below_drewN HK4.out (1 + n1))
 refine hK.out _ _ ⟨hm3, hcL, hx1, hcB⟩ (fun hHeld => ?_)
 clear hK K
 refine norm_ (a' := ?_) ?_ ?_
 rotate_left
 ·show Act.put _ (some 117) _ = _
  simp only [Act.put, List.setIfInBounds_toArray, List.set_cons_zero, List.set_cons_succ, i64_w, i32_w]
  rfl
 refine qpk 17 (some 118) ?_
 refine qtk4 18 (some 119) hHeld ?_
 refine qpk 20 (some 121) ?_
 refine qpk 21 (some 122) ?_
 refine qpk 22 (some 123) ?_
 refine last_ (i := 23) (N := none) #[Y,Y,Y,Y,Y,Y,Y,Y,Y,Y,Y,Y,Y,Y,Y,Y,Y,Y,Y,Y,Y,Y,Y,Y] rfl rfl (by kernel_rfl) (by decide) (fun K hK => ?_)
 refine skip_ (w1 := ?_) (by rfl) rfl ?_ ?_
 rotate_left
 ·go_simp
  rfl
 refine hK.out _ _ ?_
 clear hK K
 refine done_ (by kernel_rfl) ?_
 go_wp2
 first | go_end0 | ((try simp only [Exit.inBlock, Exit.then]); refine bodyPost_ret (results_none rfl _ _ _) rfl ?_)
 first
 | exact (by
   have HM5 := Mach.step HM4.out (pw_below_drewN (Below.refl _ w4) (1 + n1))
   obtain ⟨hs, hgr⟩ := Kd.R_put HM5.stk L c
   have hT := Mach.turned (AS' := some ⟨sb, 0, none⟩) (cS' := cS) (st' := st.set L.toNat c) HM5 (HM5.below.setCell (p := ⟨sb, L.toNat, none⟩) hsb _) hgr (by rw [List.length_set]; exact hs)
   obtain ⟨m1, m2⟩ := hT.2.2 rfl rfl (List.length_set)
   exact ⟨rfl, _, _, m1, (KeepT.below (pw_below_drewN HK4.out (1 + n1))).trans m2⟩)
 | exact (by
   have HM5 := Mach.step HM4.out (pw_below_drewN (Below.drew (Below.refl _ w4)) n1)
   obtain ⟨hs, hgr⟩ := Kd.R_put HM5.stk L c
   have hT := Mach.turned (AS' := some ⟨sb, 0, none⟩) (cS' := cS) (st' := st.set L.toNat c) HM5 (HM5.below.setCell (p := ⟨sb, L.toNat, none⟩) hsb _) hgr (by rw [List.length_set]; exact hs)
   obtain ⟨m1, m2⟩ := hT.2.2 rfl rfl (List.length_set)
   exact ⟨rfl, _, _, m1, (KeepT.below (pw_below_drewN (Below.drew HK4.out) n1)).trans m2⟩)
set_option maxHeartbeats 8000000 in
set_option maxRecDepth 100000 in
theorem do_or5off (W w : World) (g : Nat) (nm : List ByteArray) (bs : List Bool) (en : List S69) (st : List Bool) (AN : Option Addr) (cN : Nat) (AB : Option Addr) (cB : Nat) (AE : Option Addr) (cE : Nat) (AS : Option Addr) (cS : Nat) (xn : ByteArray) (e0 e1 : Int) (e2 : ByteArray) (AX : Option Addr) (lx cX : Nat) (h : Mach W w g nm bs en st AN cN AB cB AE cE AS cS) (L : Int) (hL : L = (st.length : Int) - 1) (h0 : 0 ≤ L) (ha : rdOf false st L = true) :
  Calls Tryd.prog 67 #[.pointer (some ⟨g, 0, none⟩), .agg #[.int .i64 5, .string xn, .int .i64 e0, .int .i64 e1, .string e2, .slice AX lx cX]] w (DoPost W w g nm bs en AN cN AB cB AE cE (st.set L.toNat (true))) := by
 have HM := Aside0.mk h
 have hw : wrap64 ((st.length : Int) - 1) = L := by have hm := (Kd.R_reads' h.stk).2.2.2.1; unfold wrap64; omega
 obtain ⟨sb, rfl, hsb, hok, hty⟩ := R_blk h.stk (by omega)
 have d0 : decide (0 ≤ L) = true := decide_eq_true h0
 have d1 : decide (L < (st.length : Int)) = true := decide_eq_true (by omega)
 have p0 := eq_true h0
 have p1 : (L < (st.length : Int)) = True := eq_true (by omega)
 have HL := Aside0.mk (And.intro hL h0)
 have HA := Aside0.mk ha
 clear h hL h0 hok hty ha
 go_enter Tryd.func67, Tryd.ntmps67
 go_wp2_with (first | ((with_reducible refine gate_dst (N := 3) rfl ?_); refine box_event ?hg (N := 3) ?hd (cs := #[.int .i64 5, .string xn, .int .i64 e0, .int .i64 e1, .string e2, .slice AX lx cX]) (t := 40) ?hr ?_; (case hd => rfl); (case hg => rfl); (case hr => first | (go_simp; done) | (go_simp; rfl)); intro gx hg4 w4 hbox hb4; have HM4 := Aside0.mk (Mach.step HM.out hb4); have HK4 := Aside0.mk hb4; have HX4 := Aside0.mk hbox; have hx0 : w4.cell? ⟨gx, 0, none⟩ = some (.int .i64 5) := (blk_cell hbox 0).trans rfl; have hx1 : w4.cell? ⟨gx, 1, none⟩ = some (.string xn) := (blk_cell hbox 1).trans rfl; have hm3 : w4.cell? ⟨g, 3, none⟩ = some (.slice (some ⟨sb, 0, none⟩) st.length cS) := (blk_cell HM4.out.blk 3).trans rfl; clear hb4 hbox hg4))
 have hR := Kd.R_cell false HM4.out.stk L HL.out.2 (by have := HL.out.1; omega)
 rw [HA.out] at hR
 obtain ⟨hcL, hfL⟩ := hR
 refine start_ (n := 24) (S := fun w' => w'.cell? ⟨g, 3, none⟩ = some (.slice (some ⟨sb, 0, none⟩) st.length cS) ∧ w'.cell? ⟨sb, L.toNat, none⟩ = some (.bool true)) (ds := [23]) #[Z,Z,Z,Z,Z,Z,Z,Z,Z,Z,Z,Z,Z,Z,Z,Z,Z,Z,Z,Z,Z,Z,Z,Z] (by kernel_rfl) rfl rfl ⟨hm3, hcL⟩ (fun hHeld => ?_)
 refine qpk 0 (some 101) ?_
 refine qpk 1 (some 102) ?_
 refine qpk 2 (some 103) ?_
 refine qpk 4 (some 105) ?_
 refine qpk 5 (some 106) ?_
 refine qpk 6 (some 107) ?_
 refine qpk 7 (some 108) ?_
 refine qpk 9 (some 110) ?_
 refine qtk2 3 (some 104) hHeld ?_
 refine qtk2 8 (some 109) hHeld ?_
 refine qpk 10 (some 111) ?_
 refine qtk2 11 (some 112) hHeld ?_
 refine qpk 12 (some 113) ?_
 refine qpx 13 (some 114) ?_
 refine qpx 14 (some 115) ?_
 refine qpx 15 (some 116) ?_
 refine qpx 16 (some 117) ?_
 refine qpx 17 (some 118) ?_
 refine qpx 18 (some 119) ?_
 refine qpx 19 (some 120) ?_
 refine qpx 20 (some 121) ?_
 refine qpk 21 (some 122) ?_
 refine qpk 22 (some 123) ?_
 refine last_ (i := 23) (N := none) #[Y,Y,Y,Y,Y,Y,Y,Y,Y,Y,Y,Y,Y,Y,Y,Y,Y,Y,Y,Y,Y,Y,Y,Y] rfl rfl (by kernel_rfl) (by decide) (fun K hK => ?_)
 refine skip_ (w1 := ?_) (by rfl) rfl ?_ ?_
 rotate_left
 ·go_simp
  rfl
 refine hK.out _ _ ?_
 clear hK K
 refine done_ (by kernel_rfl) ?_
 go_wp2
 first | go_end0 | ((try simp only [Exit.inBlock, Exit.then]); refine bodyPost_ret (results_none rfl _ _ _) rfl ?_)
 exact (by
  have HM5 := Mach.step HM4.out (Below.drew (Below.refl _ w4))
  obtain ⟨hs, hgr⟩ := Kd.R_put HM5.stk L true
  have hT := Mach.turned (AS' := some ⟨sb, 0, none⟩) (cS' := cS) (st' := st.set L.toNat true) HM5 (HM5.below.setCell (p := ⟨sb, L.toNat, none⟩) hsb _) hgr (by rw [List.length_set]; exact hs)
  obtain ⟨m1, m2⟩ := hT.2.2 rfl rfl (List.length_set)
  exact ⟨rfl, _, _, m1, (KeepT.below (Below.drew HK4.out)).trans m2⟩)
set_option maxHeartbeats 8000000 in
set_option maxRecDepth 100000 in
theorem do_or6on (W w : World) (g : Nat) (nm : List ByteArray) (bs : List Bool) (en : List S69) (st : List Bool) (AN : Option Addr) (cN : Nat) (AB : Option Addr) (cB : Nat) (AE : Option Addr) (cE : Nat) (AS : Option Addr) (cS : Nat) (xn : ByteArray) (e0 e1 : Int) (e2 : ByteArray) (AX : Option Addr) (lx cX : Nat) (h : Mach W w g nm bs en st AN cN AB cB AE cE AS cS) (L : Int) (hL : L = (st.length : Int) - 1) (h0 : 0 ≤ L) (ha : rdOf false st L = false) (k : Nat) (i : Int) (hix : slices_Index_string_string.f k nm xn = some i) (i0 : 0 ≤ i) (i1 : i < (bs.length : Int)) :
  Calls Tryd.prog 67 #[.pointer (some ⟨g, 0, none⟩), .agg #[.int .i64 6, .string xn, .int .i64 e0, .int .i64 e1, .string e2, .slice AX lx cX]] w (DoPost W w g nm bs en AN cN AB cB AE cE (st.set L.toNat ((!rdOf false bs i)))) := by
 have HM := Aside0.mk h
 obtain ⟨gb, rfl, hgb, _, _⟩ := R_blk h.bts (by omega)
 obtain ⟨c, hcc⟩ : ∃ c, rdOf false bs i = c := ⟨_, rfl⟩
 rw [hcc]
 have HCC := Aside0.mk hcc
 have HIX := Aside0.mk hix
 have HI := Aside0.mk (And.intro i0 i1)
 have hw : wrap64 ((st.length : Int) - 1) = L := by have hm := (Kd.R_reads' h.stk).2.2.2.1; unfold wrap64; omega
 obtain ⟨sb, rfl, hsb, hok, hty⟩ := R_blk h.stk (by omega)
 have d0 : decide (0 ≤ L) = true := decide_eq_true h0
 have d1 : decide (L < (st.length : Int)) = true := decide_eq_true (by omega)
 have p0 := eq_true h0
 have p1 : (L < (st.length : Int)) = True := eq_true (by omega)
 have HL := Aside0.mk (And.intro hL h0)
 have HA := Aside0.mk ha
 clear h hL h0 hok hty ha hcc hix i0 i1
 go_enter Tryd.func67, Tryd.ntmps67
 go_wp2_with (first | ((with_reducible refine gate_dst (N := 3) rfl ?_); refine box_event ?hg (N := 3) ?hd (cs := #[.int .i64 6, .string xn, .int .i64 e0, .int .i64 e1, .string e2, .slice AX lx cX]) (t := 40) ?hr ?_; (case hd => rfl); (case hg => rfl); (case hr => first | (go_simp; done) | (go_simp; rfl)); intro gx hg4 w4 hbox hb4; have HM4 := Aside0.mk (Mach.step HM.out hb4); have HK4 := Aside0.mk hb4; have HX4 := Aside0.mk hbox; have hx0 : w4.cell? ⟨gx, 0, none⟩ = some (.int .i64 6) := (blk_cell hbox 0).trans rfl; have hx1 : w4.cell? ⟨gx, 1, none⟩ = some (.string xn) := (blk_cell hbox 1).trans rfl; have hm3 : w4.cell? ⟨g, 3, none⟩ = some (.slice (some ⟨sb, 0, none⟩) st.length cS) := (blk_cell HM4.out.blk 3).trans rfl; clear hb4 hbox hg4))
 have hR := Kd.R_cell false HM4.out.stk L HL.out.2 (by have := HL.out.1; omega)
 rw [HA.out] at hR
 obtain ⟨hcL, hfL⟩ := hR
 have hRb := Kd.R_cell false HM4.out.bts i HI.out.1 HI.out.2
 rw [HCC.out] at hRb
 obtain ⟨hcB, _⟩ := hRb
 have HBit := Aside0.mk (machine_bit k g w4.drew AN cN nm gb bs.length cB (.slice AE en.length cE) (.slice (some ⟨sb, 0, none⟩) st.length cS) xn i HM4.out.blk (Kd.R_reads' HM4.out.nms).2.2 (Kd.R_reads' HM4.out.nms).2.1 HIX.out HI.out.1 (by have := HI.out.2; omega))
 refine start_ (n := 24) (S := fun w' => w'.cell? ⟨g, 3, none⟩ = some (.slice (some ⟨sb, 0, none⟩) st.length cS) ∧ w'.cell? ⟨sb, L.toNat, none⟩ = some (.bool false) ∧ w'.cell? ⟨gx, 1, none⟩ = some (.string xn) ∧ w'.cell? ⟨gb, i.toNat, none⟩ = some (.bool c)) (ds := [23]) #[false, false, false, false, false, false, false, false, false, false, false, false, false, false, false, false, false, false, false, false, false, false, false, false] (by kernel_rfl) rfl rfl ⟨hm3, hcL, hx1, hcB⟩ (fun hHeld => ?_)
 refine qpk 0 (some 101) ?_
 refine qpk 1 (some 102) ?_
 refine qpk 2 (some 103) ?_
 refine qpk 4 (some 105) ?_
 refine qpk 5 (some 106) ?_
 refine qpk 6 (some 107) ?_
 refine qpk 7 (some 108) ?_
 refine qpk 9 (some 110) ?_
 refine qtk4 3 (some 104) hHeld ?_
 refine qtk4 8 (some 109) hHeld ?_
 refine qpk 10 (some 111) ?_
 refine qtk4 11 (some 112) hHeld ?_
 refine qpk 12 (some 113) ?_
 refine qpk 13 (some 114) ?_
 refine qpk 14 (some 115) ?_
 refine qpk 19 (some 120) ?_
 refine qtk4 15 (some 116) hHeld ?_
 refine one_ (i := 16) (N := some 117) #[Y,Y,Y,Y,Y,Y,Y,Y,Y,Y,Y,Y,Y,Y,Y,Y,Y,Z,Z,Y,Z,Z,Z,Z] rfl rfl (by kernel_rfl) (by decide) (fun K hK => ?_)
 refine goes_ Tryd.func68 (by kernel_rfl) rfl #[.pointer (some ⟨g, 0, none⟩), .string xn] (by rfl) rfl rfl (by simp only [List.map_toArray, List.map_cons, List.map_nil]; rfl) ?_
 with_reducible refine (HBit.out).mono ?_
 rintro e w6 ⟨rfl, ⟨n1, rfl⟩⟩
 refine ⟨_, rfl, ?_⟩
 have HM6 := Aside0.mk (Mach.step HM4.out (pw_below_drewN (Below.refl _ w4) (1 + n1)))
 have HK6 := Aside0.mk (pw_below_drewN HK4.out (1 + n1))
 refine hK.out _ _ ⟨hm3, hcL, hx1, hcB⟩ (fun hHeld => ?_)
 clear hK K
 refine norm_ (a' := ?_) ?_ ?_
 rotate_left
 ·show Act.put _ (some 117) _ = _
  simp only [Act.put, List.setIfInBounds_toArray, List.set_cons_zero, List.set_cons_succ, i64_w, i32_w]
  rfl
 refine qpk 17 (some 118) ?_
 refine qtk4 18 (some 119) hHeld ?_
 refine qpk 20 (some 121) ?_
 refine qpk 21 (some 122) ?_
 refine qpk 22 (some 123) ?_
 refine last_ (i := 23) (N := none) #[Y,Y,Y,Y,Y,Y,Y,Y,Y,Y,Y,Y,Y,Y,Y,Y,Y,Y,Y,Y,Y,Y,Y,Y] rfl rfl (by kernel_rfl) (by decide) (fun K hK => ?_)
 refine skip_ (w1 := ?_) (by rfl) rfl ?_ ?_
 rotate_left
 ·go_simp
  rfl
 refine hK.out _ _ ?_
 clear hK K
 refine done_ (by kernel_rfl) ?_
 go_wp2
 first | go_end0 | ((try simp only [Exit.inBlock, Exit.then]); refine bodyPost_ret (results_none rfl _ _ _) rfl ?_)
 first
 | exact (by
   have HM5 := Mach.step HM4.out (pw_below_drewN (Below.refl _ w4) (1 + n1))
   obtain ⟨hs, hgr⟩ := Kd.R_put HM5.stk L (!c)
   have hT := Mach.turned (AS' := some ⟨sb, 0, none⟩) (cS' := cS) (st' := st.set L.toNat (!c)) HM5 (HM5.below.setCell (p := ⟨sb, L.toNat, none⟩) hsb _) hgr (by rw [List.length_set]; exact hs)
   obtain ⟨m1, m2⟩ := hT.2.2 rfl rfl (List.length_set)
   exact ⟨rfl, _, _, m1, (KeepT.below (pw_below_drewN HK4.out (1 + n1))).trans m2⟩)
 | exact (by
   have HM5 := Mach.step HM4.out (pw_below_drewN (Below.drew (Below.refl _ w4)) n1)
   obtain ⟨hs, hgr⟩ := Kd.R_put HM5.stk L (!c)
   have hT := Mach.turned (AS' := some ⟨sb, 0, none⟩) (cS' := cS) (st' := st.set L.toNat (!c)) HM5 (HM5.below.setCell (p := ⟨sb, L.toNat, none⟩) hsb _) hgr (by rw [List.length_set]; exact hs)
   obtain ⟨m1, m2⟩ := hT.2.2 rfl rfl (List.length_set)
   exact ⟨rfl, _, _, m1, (KeepT.below (pw_below_drewN (Below.drew HK4.out) n1)).trans m2⟩)
set_option maxHeartbeats 8000000 in
set_option maxRecDepth 100000 in
theorem do_or6off (W w : World) (g : Nat) (nm : List ByteArray) (bs : List Bool) (en : List S69) (st : List Bool) (AN : Option Addr) (cN : Nat) (AB : Option Addr) (cB : Nat) (AE : Option Addr) (cE : Nat) (AS : Option Addr) (cS : Nat) (xn : ByteArray) (e0 e1 : Int) (e2 : ByteArray) (AX : Option Addr) (lx cX : Nat) (h : Mach W w g nm bs en st AN cN AB cB AE cE AS cS) (L : Int) (hL : L = (st.length : Int) - 1) (h0 : 0 ≤ L) (ha : rdOf false st L = true) :
  Calls Tryd.prog 67 #[.pointer (some ⟨g, 0, none⟩), .agg #[.int .i64 6, .string xn, .int .i64 e0, .int .i64 e1, .string e2, .slice AX lx cX]] w (DoPost W w g nm bs en AN cN AB cB AE cE (st.set L.toNat (true))) := by
 have HM := Aside0.mk h
 have hw : wrap64 ((st.length : Int) - 1) = L := by have hm := (Kd.R_reads' h.stk).2.2.2.1; unfold wrap64; omega
 obtain ⟨sb, rfl, hsb, hok, hty⟩ := R_blk h.stk (by omega)
 have d0 : decide (0 ≤ L) = true := decide_eq_true h0
 have d1 : decide (L < (st.length : Int)) = true := decide_eq_true (by omega)
 have p0 := eq_true h0
 have p1 : (L < (st.length : Int)) = True := eq_true (by omega)
 have HL := Aside0.mk (And.intro hL h0)
 have HA := Aside0.mk ha
 clear h hL h0 hok hty ha
 go_enter Tryd.func67, Tryd.ntmps67
 go_wp2_with (first | ((with_reducible refine gate_dst (N := 3) rfl ?_); refine box_event ?hg (N := 3) ?hd (cs := #[.int .i64 6, .string xn, .int .i64 e0, .int .i64 e1, .string e2, .slice AX lx cX]) (t := 40) ?hr ?_; (case hd => rfl); (case hg => rfl); (case hr => first | (go_simp; done) | (go_simp; rfl)); intro gx hg4 w4 hbox hb4; have HM4 := Aside0.mk (Mach.step HM.out hb4); have HK4 := Aside0.mk hb4; have HX4 := Aside0.mk hbox; have hx0 : w4.cell? ⟨gx, 0, none⟩ = some (.int .i64 6) := (blk_cell hbox 0).trans rfl; have hx1 : w4.cell? ⟨gx, 1, none⟩ = some (.string xn) := (blk_cell hbox 1).trans rfl; have hm3 : w4.cell? ⟨g, 3, none⟩ = some (.slice (some ⟨sb, 0, none⟩) st.length cS) := (blk_cell HM4.out.blk 3).trans rfl; clear hb4 hbox hg4))
 have hR := Kd.R_cell false HM4.out.stk L HL.out.2 (by have := HL.out.1; omega)
 rw [HA.out] at hR
 obtain ⟨hcL, hfL⟩ := hR
 refine start_ (n := 24) (S := fun w' => w'.cell? ⟨g, 3, none⟩ = some (.slice (some ⟨sb, 0, none⟩) st.length cS) ∧ w'.cell? ⟨sb, L.toNat, none⟩ = some (.bool true)) (ds := [23]) #[Z,Z,Z,Z,Z,Z,Z,Z,Z,Z,Z,Z,Z,Z,Z,Z,Z,Z,Z,Z,Z,Z,Z,Z] (by kernel_rfl) rfl rfl ⟨hm3, hcL⟩ (fun hHeld => ?_)
 refine qpk 0 (some 101) ?_
 refine qpk 1 (some 102) ?_
 refine qpk 2 (some 103) ?_
 refine qpk 4 (some 105) ?_
 refine qpk 5 (some 106) ?_
 refine qpk 6 (some 107) ?_
 refine qpk 7 (some 108) ?_
 refine qpk 9 (some 110) ?_
 refine qtk2 3 (some 104) hHeld ?_
 refine qtk2 8 (some 109) hHeld ?_
 refine qpk 10 (some 111) ?_
 refine qtk2 11 (some 112) hHeld ?_
 refine qpk 12 (some 113) ?_
 refine qpx 13 (some 114) ?_
 refine qpx 14 (some 115) ?_
 refine qpx 15 (some 116) ?_
 refine qpx 16 (some 117) ?_
 refine qpx 17 (some 118) ?_
 refine qpx 18 (some 119) ?_
 refine qpx 19 (some 120) ?_
 refine qpx 20 (some 121) ?_
 refine qpk 21 (some 122) ?_
 refine qpk 22 (some 123) ?_
 refine last_ (i := 23) (N := none) #[Y,Y,Y,Y,Y,Y,Y,Y,Y,Y,Y,Y,Y,Y,Y,Y,Y,Y,Y,Y,Y,Y,Y,Y] rfl rfl (by kernel_rfl) (by decide) (fun K hK => ?_)
 refine skip_ (w1 := ?_) (by rfl) rfl ?_ ?_
 rotate_left
 ·go_simp
  rfl
 refine hK.out _ _ ?_
 clear hK K
 refine done_ (by kernel_rfl) ?_
 go_wp2
 first | go_end0 | ((try simp only [Exit.inBlock, Exit.then]); refine bodyPost_ret (results_none rfl _ _ _) rfl ?_)
 exact (by
  have HM5 := Mach.step HM4.out (Below.drew (Below.refl _ w4))
  obtain ⟨hs, hgr⟩ := Kd.R_put HM5.stk L true
  have hT := Mach.turned (AS' := some ⟨sb, 0, none⟩) (cS' := cS) (st' := st.set L.toNat true) HM5 (HM5.below.setCell (p := ⟨sb, L.toNat, none⟩) hsb _) hgr (by rw [List.length_set]; exact hs)
  obtain ⟨m1, m2⟩ := hT.2.2 rfl rfl (List.length_set)
  exact ⟨rfl, _, _, m1, (KeepT.below (Below.drew HK4.out)).trans m2⟩)
set_option maxHeartbeats 8000000 in
set_option maxRecDepth 100000 in
theorem do_anbon (W w : World) (g : Nat) (nm : List ByteArray) (bs : List Bool) (en : List S69) (st : List Bool) (AN : Option Addr) (cN : Nat) (AB : Option Addr) (cB : Nat) (AE : Option Addr) (cE : Nat) (AS : Option Addr) (cS : Nat) (xn : ByteArray) (e0 e1 : Int) (e2 : ByteArray) (AX : Option Addr) (lx cX : Nat) (h : Mach W w g nm bs en st AN cN AB cB AE cE AS cS) (L : Int) (hL : L = (st.length : Int) - 1) (h0 : 1 ≤ L) (ha : rdOf false st (L - 1) = true) (hl : st.length < 1000000) :
  Calls Tryd.prog 67 #[.pointer (some ⟨g, 0, none⟩), .agg #[.int .i64 7, .string xn, .int .i64 e0, .int .i64 e1, .string e2, .slice AX lx cX]] w (DoPost W w g nm bs en AN cN AB cB AE cE (st.take (L - 1).toNat ++ [rdOf false st L])) := by
 have HM := Aside0.mk h
 have HLE := Aside0.mk hl
 have hw : wrap64 ((st.length : Int) - 1) = L := by have hm := (Kd.R_reads' h.stk).2.2.2.1; unfold wrap64; omega
 obtain ⟨sb, rfl, hsb, hok, hty⟩ := R_blk h.stk (by omega)
 have d0 : decide (0 ≤ L) = true := decide_eq_true (by omega)
 have d1 : decide (L < (st.length : Int)) = true := decide_eq_true (by omega)
 have p0 : (0 ≤ L) = True := eq_true (by omega)
 have p1 : (L < (st.length : Int)) = True := eq_true (by omega)
 have HL := Aside0.mk (And.intro hL h0)
 obtain ⟨M, hM⟩ : ∃ M, M = L - 1 := ⟨_, rfl⟩
 have hcap := (Kd.R_reads' h.stk).2.1
 have hw2 : wrap64 (L - 1) = M := by have hm := (Kd.R_reads' h.stk).2.2.2.1; unfold wrap64; omega
 have d2 : decide (0 ≤ M) = true := decide_eq_true (by omega)
 have d3 : decide (M < (st.length : Int)) = true := decide_eq_true (by omega)
 have d4 : decide (M ≤ (cS : Int)) = true := decide_eq_true (by omega)
 have p2 : (0 ≤ M) = True := eq_true (by omega)
 have p3 : (M < (st.length : Int)) = True := eq_true (by omega)
 have p4 : (M ≤ (cS : Int)) = True := eq_true (by omega)
 rw [← hM] at ha ⊢
 have HMM := Aside0.mk hM
 obtain ⟨c, hcc⟩ : ∃ c, rdOf false st L = c := ⟨_, rfl⟩
 rw [hcc]
 have HCC := Aside0.mk hcc
 clear hcc
 obtain ⟨s6, hs6⟩ : ∃ s6, s6 = st.take M.toNat := ⟨_, rfl⟩
 have hl6 : s6.length = M.toNat := by rw [hs6, List.length_take]; omega
 rw [← hs6]
 obtain ⟨st7, hst7⟩ : ∃ st7, st7 = s6 ++ [c] := ⟨_, rfl⟩
 rw [← hst7]
 have HS6 := Aside0.mk hs6
 have HL6 := Aside0.mk hl6
 have HST := Aside0.mk hst7
 have HA := Aside0.mk ha
 clear h hL h0 hok hty ha hl hM hcap hs6 hl6 hst7
 go_enter Tryd.func67, Tryd.ntmps67
 go_wp2_with (first | ((with_reducible refine gate_dst (N := 3) rfl ?_); refine box_event ?hg (N := 3) ?hd (cs := #[.int .i64 7, .string xn, .int .i64 e0, .int .i64 e1, .string e2, .slice AX lx cX]) (t := 40) ?hr ?_; (case hd => rfl); (case hg => rfl); (case hr => first | (go_simp; done) | (go_simp; rfl)); intro gx hg4 w4 hbox hb4; have HM4 := Aside0.mk (Mach.step HM.out hb4); have HK4 := Aside0.mk hb4; have HX4 := Aside0.mk hbox; have hx0 : w4.cell? ⟨gx, 0, none⟩ = some (.int .i64 7) := (blk_cell hbox 0).trans rfl; have hx1 : w4.cell? ⟨gx, 1, none⟩ = some (.string xn) := (blk_cell hbox 1).trans rfl; have hm3 : w4.cell? ⟨g, 3, none⟩ = some (.slice (some ⟨sb, 0, none⟩) st.length cS) := (blk_cell HM4.out.blk 3).trans rfl; clear hb4 hbox hg4))
 have hR := Kd.R_cell false HM4.out.stk M (by have := HL.out; have := HMM.out; omega) (by have := HL.out; have := HMM.out; omega)
 rw [HA.out] at hR
 obtain ⟨hcM, _⟩ := hR
 have hR2 := Kd.R_cell false HM4.out.stk L (by have := HL.out; omega) (by have := HL.out.1; omega)
 rw [HCC.out] at hR2
 obtain ⟨hcL, _⟩ := hR2
 have HM6 := Aside0.mk (Mach.step HM4.out (Below.drew (Below.refl _ w4)))
 have HK6 := Aside0.mk (Below.drew HK4.out)
 refine start_ (n := 30) (S := fun w' => w'.cell? ⟨g, 3, none⟩ = some (.slice (some ⟨sb, 0, none⟩) st.length cS) ∧ w'.cell? ⟨sb, M.toNat, none⟩ = some (.bool true) ∧ w'.cell? ⟨sb, L.toNat, none⟩ = some (.bool c)) (ds := [26, 29]) #[false, false, false, false, false, false, false, false, false, false, false, false, false, false, false, false, false, false, false, false, false, false, false, false, false, false, false, false, false, false] (by kernel_rfl) rfl rfl ⟨hm3, hcM, hcL⟩ (fun hHeld => ?_)
 refine qpk 0 (some 124) ?_
 refine qpk 1 (some 125) ?_
 refine qpk 2 (some 126) ?_
 refine qpk 3 (some 127) ?_
 refine qpk 5 (some 129) ?_
 refine qpk 6 (some 130) ?_
 refine qpk 8 (some 132) ?_
 refine qpk 9 (some 133) ?_
 refine qpk 10 (some 134) ?_
 refine qpk 12 (some 136) ?_
 refine qpk 13 (some 137) ?_
 refine qtk3 4 (some 128) hHeld ?_
 refine qpk 7 (some 131) ?_
 refine qtk3 11 (some 135) hHeld ?_
 refine qpk 14 (some 138) ?_
 refine qtk3 15 (some 139) hHeld ?_
 refine qpk 16 (some 140) ?_
 refine qpk 17 (some 141) ?_
 refine qpk 18 (some 142) ?_
 refine qpk 19 (some 143) ?_
 refine qpk 21 (some 145) ?_
 refine qtk3 20 (some 144) hHeld ?_
 refine qpk 22 (some 146) ?_
 refine qtk3 23 (some 147) hHeld ?_
 refine qpk 24 (some 148) ?_
 refine one_ (i := 25) (N := some 149) #[Y,Y,Y,Y,Y,Y,Y,Y,Y,Y,Y,Y,Y,Y,Y,Y,Y,Y,Y,Y,Y,Y,Y,Y,Y,Y,Z,Z,Z,Z] rfl rfl (by kernel_rfl) (by decide) (fun K hK => ?_)
 refine value_ (w1 := ?_) (v := ?_) (by rfl) rfl ?_ ?_
 rotate_left 2
 ·go_simp
  constructor
  ·rfl
  rfl
 refine hK.out _ _ ⟨(cellAl hm3), (cellAl hcM), (cellAl hcL)⟩ (fun hHeld => ?_)
 clear hK K
 refine norm_ (a' := ?_) ?_ ?_
 rotate_left
 ·show Act.put _ (some 149) _ = _
  simp only [Act.put, List.setIfInBounds_toArray, List.set_cons_zero, List.set_cons_succ, i64_w, i32_w]
  rfl
 refine last_ (i := 26) (N := some 150) #[Y,Y,Y,Y,Y,Y,Y,Y,Y,Y,Y,Y,Y,Y,Y,Y,Y,Y,Y,Y,Y,Y,Y,Y,Y,Y,Y,Z,Z,Z] rfl rfl (by kernel_rfl) (by decide) (fun K hK => ?_)
 refine Kd.R_append_step Kd.bool (w0 := W) W.heap.size (by rfl) (.tmp 131) (.tmp 149) 46 4 (.bool false) 1 rfl Tryd.underlying46 info4d rfl (by decide) (by decide) (.slice (some ⟨sb, 0, none⟩) s6.length cS) s6 c [.bool c] (fun k => some k ≠ (Value.slice AB bs.length cB).ownBlock) (fun _ => False) (by rw [HL6.out]; rfl) rfl rfl (fun _ hk => hk.elim) (fun k hk => Mach.fresh HM6.out k hk) (by have := R_take HM6.out.stk M.toNat (by have := HL.out; have := HMM.out; omega); rw [← HS6.out] at this; exact this) HM6.out.below HM6.out.below.size (by have := HLE.out; have := HL6.out; have := HL.out; have := HMM.out; omega) ?_
 intro v7 w7 ho7 hb7 hg7 hat7
 rw [← HST.out] at ho7
 obtain ⟨AS7, cS7, rfl⟩ := Kd.R_slice ho7
 have b7 := (Mach.turned HM6.out hb7 hg7 ho7).1
 have c7 : w7.cell? ⟨g, 3, none⟩ = some (.slice (some ⟨sb, 0, none⟩) st.length cS) := (blk_cell b7 3).trans rfl
 have f7 : w7.frozen? ⟨g, 3, none⟩ = false := blk_frozen b7 3
 have H7 := Aside0.mk (And.intro hb7 (And.intro hg7 ho7))
 clear hb7 hg7 ho7 hat7 b7
 refine hK.out _ _ ?_
 clear hK K
 refine norm_ (a' := ?_) ?_ ?_
 rotate_left
 ·show Act.put _ (some 150) _ = _
  simp only [Act.put, List.setIfInBounds_toArray, List.set_cons_zero, List.set_cons_succ, i64_w, i32_w]
  rfl
 refine qpk 27 (some 151) ?_
 refine qpk 28 (some 152) ?_
 refine last_ (i := 29) (N := none) #[Y,Y,Y,Y,Y,Y,Y,Y,Y,Y,Y,Y,Y,Y,Y,Y,Y,Y,Y,Y,Y,Y,Y,Y,Y,Y,Y,Y,Y,Y] rfl rfl (by kernel_rfl) (by decide) (fun K hK => ?_)
 refine skip_ (w1 := ?_) (by rfl) rfl ?_ ?_
 rotate_left
 ·go_simp
  rfl
 refine hK.out _ _ ?_
 clear hK K
 refine done_ (by kernel_rfl) ?_
 go_wp2
 first | go_end0 | ((try simp only [Exit.inBlock, Exit.then]); refine bodyPost_ret (results_none rfl _ _ _) rfl ?_)
 obtain ⟨m1, m2⟩ := (Mach.turned HM6.out H7.out.1 H7.out.2.1 H7.out.2.2).2.1 rfl
 exact ⟨rfl, _, _, m1, (KeepT.below HK6.out).trans m2⟩
set_option maxHeartbeats 8000000 in
set_option maxRecDepth 100000 in
theorem do_anboff (W w : World) (g : Nat) (nm : List ByteArray) (bs : List Bool) (en : List S69) (st : List Bool) (AN : Option Addr) (cN : Nat) (AB : Option Addr) (cB : Nat) (AE : Option Addr) (cE : Nat) (AS : Option Addr) (cS : Nat) (xn : ByteArray) (e0 e1 : Int) (e2 : ByteArray) (AX : Option Addr) (lx cX : Nat) (h : Mach W w g nm bs en st AN cN AB cB AE cE AS cS) (L : Int) (hL : L = (st.length : Int) - 1) (h0 : 1 ≤ L) (ha : rdOf false st (L - 1) = false) (hl : st.length < 1000000) :
  Calls Tryd.prog 67 #[.pointer (some ⟨g, 0, none⟩), .agg #[.int .i64 7, .string xn, .int .i64 e0, .int .i64 e1, .string e2, .slice AX lx cX]] w (DoPost W w g nm bs en AN cN AB cB AE cE (st.take (L - 1).toNat ++ [false])) := by
 have HM := Aside0.mk h
 have HLE := Aside0.mk hl
 have hw : wrap64 ((st.length : Int) - 1) = L := by have hm := (Kd.R_reads' h.stk).2.2.2.1; unfold wrap64; omega
 obtain ⟨sb, rfl, hsb, hok, hty⟩ := R_blk h.stk (by omega)
 have d0 : decide (0 ≤ L) = true := decide_eq_true (by omega)
 have d1 : decide (L < (st.length : Int)) = true := decide_eq_true (by omega)
 have p0 : (0 ≤ L) = True := eq_true (by omega)
 have p1 : (L < (st.length : Int)) = True := eq_true (by omega)
 have HL := Aside0.mk (And.intro hL h0)
 obtain ⟨M, hM⟩ : ∃ M, M = L - 1 := ⟨_, rfl⟩
 have hcap := (Kd.R_reads' h.stk).2.1
 have hw2 : wrap64 (L - 1) = M := by have hm := (Kd.R_reads' h.stk).2.2.2.1; unfold wrap64; omega
 have d2 : decide (0 ≤ M) = true := decide_eq_true (by omega)
 have d3 : decide (M < (st.length : Int)) = true := decide_eq_true (by omega)
 have d4 : decide (M ≤ (cS : Int)) = true := decide_eq_true (by omega)
 have p2 : (0 ≤ M) = True := eq_true (by omega)
 have p3 : (M < (st.length : Int)) = True := eq_true (by omega)
 have p4 : (M ≤ (cS : Int)) = True := eq_true (by omega)
 rw [← hM] at ha ⊢
 have HMM := Aside0.mk hM
 obtain ⟨s6, hs6⟩ : ∃ s6, s6 = st.take M.toNat := ⟨_, rfl⟩
 have hl6 : s6.length = M.toNat := by rw [hs6, List.length_take]; omega
 rw [← hs6]
 obtain ⟨st7, hst7⟩ : ∃ st7, st7 = s6 ++ [false] := ⟨_, rfl⟩
 rw [← hst7]
 have HS6 := Aside0.mk hs6
 have HL6 := Aside0.mk hl6
 have HST := Aside0.mk hst7
 have HA := Aside0.mk ha
 clear h hL h0 hok hty ha hl hM hcap hs6 hl6 hst7
 go_enter Tryd.func67, Tryd.ntmps67
 go_wp2_with (first | ((with_reducible refine gate_dst (N := 3) rfl ?_); refine box_event ?hg (N := 3) ?hd (cs := #[.int .i64 7, .string xn, .int .i64 e0, .int .i64 e1, .string e2, .slice AX lx cX]) (t := 40) ?hr ?_; (case hd => rfl); (case hg => rfl); (case hr => first | (go_simp; done) | (go_simp; rfl)); intro gx hg4 w4 hbox hb4; have HM4 := Aside0.mk (Mach.step HM.out hb4); have HK4 := Aside0.mk hb4; have HX4 := Aside0.mk hbox; have hx0 : w4.cell? ⟨gx, 0, none⟩ = some (.int .i64 7) := (blk_cell hbox 0).trans rfl; have hx1 : w4.cell? ⟨gx, 1, none⟩ = some (.string xn) := (blk_cell hbox 1).trans rfl; have hm3 : w4.cell? ⟨g, 3, none⟩ = some (.slice (some ⟨sb, 0, none⟩) st.length cS) := (blk_cell HM4.out.blk 3).trans rfl; clear hb4 hbox hg4))
 have hR := Kd.R_cell false HM4.out.stk M (by have := HL.out; have := HMM.out; omega) (by have := HL.out; have := HMM.out; omega)
 rw [HA.out] at hR
 obtain ⟨hcM, _⟩ := hR
 have HM6 := Aside0.mk (Mach.step HM4.out (Below.drew (Below.refl _ w4)))
 have HK6 := Aside0.mk (Below.drew HK4.out)
 refine start_ (n := 30) (S := fun w' => w'.cell? ⟨g, 3, none⟩ = some (.slice (some ⟨sb, 0, none⟩) st.length cS) ∧ w'.cell? ⟨sb, M.toNat, none⟩ = some (.bool false)) (ds := [26, 29]) #[Z,Z,Z,Z,Z,Z,Z,Z,Z,Z,Z,Z,Z,Z,Z,Z,Z,Z,Z,Z,Z,Z,Z,Z,Z,Z,Z,Z,Z,Z] (by kernel_rfl) rfl rfl ⟨hm3, hcM⟩ (fun hHeld => ?_)
 refine qpk 0 (some 124) ?_
 refine qpk 1 (some 125) ?_
 refine qpk 2 (some 126) ?_
 refine qpk 3 (some 127) ?_
 refine qpk 5 (some 129) ?_
 refine qpk 6 (some 130) ?_
 refine qpk 8 (some 132) ?_
 refine qpk 9 (some 133) ?_
 refine qpk 10 (some 134) ?_
 refine qpk 12 (some 136) ?_
 refine qpk 13 (some 137) ?_
 refine qtk2 4 (some 128) hHeld ?_
 refine qpk 7 (some 131) ?_
 refine qtk2 11 (some 135) hHeld ?_
 refine qpk 14 (some 138) ?_
 refine qtk2 15 (some 139) hHeld ?_
 refine qpk 16 (some 140) ?_
 refine qpx 17 (some 141) ?_
 refine qpx 18 (some 142) ?_
 refine qpx 19 (some 143) ?_
 refine qpx 20 (some 144) ?_
 refine qpx 21 (some 145) ?_
 refine qpx 22 (some 146) ?_
 refine qpx 23 (some 147) ?_
 refine qpk 24 (some 148) ?_
 refine one_ (i := 25) (N := some 149) #[Y,Y,Y,Y,Y,Y,Y,Y,Y,Y,Y,Y,Y,Y,Y,Y,Y,Y,Y,Y,Y,Y,Y,Y,Y,Y,Z,Z,Z,Z] rfl rfl (by kernel_rfl) (by decide) (fun K hK => ?_)
 refine value_ (w1 := ?_) (v := ?_) (by rfl) rfl ?_ ?_
 rotate_left 2
 ·go_simp
  constructor
  ·rfl
  rfl
 refine hK.out _ _ ⟨(cellAl hm3), (cellAl hcM)⟩ (fun hHeld => ?_)
 clear hK K
 refine norm_ (a' := ?_) ?_ ?_
 rotate_left
 ·show Act.put _ (some 149) _ = _
  simp only [Act.put, List.setIfInBounds_toArray, List.set_cons_zero, List.set_cons_succ, i64_w, i32_w]
  rfl
 refine last_ (i := 26) (N := some 150) #[Y,Y,Y,Y,Y,Y,Y,Y,Y,Y,Y,Y,Y,Y,Y,Y,Y,Y,Y,Y,Y,Y,Y,Y,Y,Y,Y,Z,Z,Z] rfl rfl (by kernel_rfl) (by decide) (fun K hK => ?_)
 refine Kd.R_append_step Kd.bool (w0 := W) W.heap.size (by rfl) (.tmp 131) (.tmp 149) 46 4 (.bool false) 1 rfl Tryd.underlying46 info4d rfl (by decide) (by decide) (.slice (some ⟨sb, 0, none⟩) s6.length cS) s6 false [.bool false] (fun k => some k ≠ (Value.slice AB bs.length cB).ownBlock) (fun _ => False) (by rw [HL6.out]; rfl) rfl rfl (fun _ hk => hk.elim) (fun k hk => Mach.fresh HM6.out k hk) (by have := R_take HM6.out.stk M.toNat (by have := HL.out; have := HMM.out; omega); rw [← HS6.out] at this; exact this) HM6.out.below HM6.out.below.size (by have := HLE.out; have := HL6.out; have := HL.out; have := HMM.out; omega) ?_
 intro v7 w7 ho7 hb7 hg7 hat7
 rw [← HST.out] at ho7
 obtain ⟨AS7, cS7, rfl⟩ := Kd.R_slice ho7
 have b7 := (Mach.turned HM6.out hb7 hg7 ho7).1
 have c7 : w7.cell? ⟨g, 3, none⟩ = some (.slice (some ⟨sb, 0, none⟩) st.length cS) := (blk_cell b7 3).trans rfl
 have f7 : w7.frozen? ⟨g, 3, none⟩ = false := blk_frozen b7 3
 have H7 := Aside0.mk (And.intro hb7 (And.intro hg7 ho7))
 clear hb7 hg7 ho7 hat7 b7
 refine hK.out _ _ ?_
 clear hK K
 refine norm_ (a' := ?_) ?_ ?_
 rotate_left
 ·show Act.put _ (some 150) _ = _
  simp only [Act.put, List.setIfInBounds_toArray, List.set_cons_zero, List.set_cons_succ, i64_w, i32_w]
  rfl
 refine qpk 27 (some 151) ?_
 refine qpk 28 (some 152) ?_
 refine last_ (i := 29) (N := none) #[Y,Y,Y,Y,Y,Y,Y,Y,Y,Y,Y,Y,Y,Y,Y,Y,Y,Y,Y,Y,Y,Y,Y,Y,Y,Y,Y,Y,Y,Y] rfl rfl (by kernel_rfl) (by decide) (fun K hK => ?_)
 refine skip_ (w1 := ?_) (by rfl) rfl ?_ ?_
 rotate_left
 ·go_simp
  rfl
 refine hK.out _ _ ?_
 clear hK K
 refine done_ (by kernel_rfl) ?_
 go_wp2
 first | go_end0 | ((try simp only [Exit.inBlock, Exit.then]); refine bodyPost_ret (results_none rfl _ _ _) rfl ?_)
 obtain ⟨m1, m2⟩ := (Mach.turned HM6.out H7.out.1 H7.out.2.1 H7.out.2.2).2.1 rfl
 exact ⟨rfl, _, _, m1, (KeepT.below HK6.out).trans m2⟩
set_option maxHeartbeats 8000000 in
set_option maxRecDepth 100000 in
theorem do_orbon (W w : World) (g : Nat) (nm : List ByteArray) (bs : List Bool) (en : List S69) (st : List Bool) (AN : Option Addr) (cN : Nat) (AB : Option Addr) (cB : Nat) (AE : Option Addr) (cE : Nat) (AS : Option Addr) (cS : Nat) (xn : ByteArray) (e0 e1 : Int) (e2 : ByteArray) (AX : Option Addr) (lx cX : Nat) (h : Mach W w g nm bs en st AN cN AB cB AE cE AS cS) (L : Int) (hL : L = (st.length : Int) - 1) (h0 : 1 ≤ L) (ha : rdOf false st (L - 1) = false) (hl : st.length < 1000000) :
  Calls Tryd.prog 67 #[.pointer (some ⟨g, 0, none⟩), .agg #[.int .i64 8, .string xn, .int .i64 e0, .int .i64 e1, .string e2, .slice AX lx cX]] w (DoPost W w g nm bs en AN cN AB cB AE cE (st.take (L - 1).toNat ++ [rdOf false st L])) := by
 have HM := Aside0.mk h
 have HLE := Aside0.mk hl
 have hw : wrap64 ((st.length : Int) - 1) = L := by have hm := (Kd.R_reads' h.stk).2.2.2.1; unfold wrap64; omega
 obtain ⟨sb, rfl, hsb, hok, hty⟩ := R_blk h.stk (by omega)
 have d0 : decide (0 ≤ L) = true := decide_eq_true (by omega)
 have d1 : decide (L < (st.length : Int)) = true := decide_eq_true (by omega)
 have p0 : (0 ≤ L) = True := eq_true (by omega)
 have p1 : (L < (st.length : Int)) = True := eq_true (by omega)
 have HL := Aside0.mk (And.intro hL h0)
 obtain ⟨M, hM⟩ : ∃ M, M = L - 1 := ⟨_, rfl⟩
 have hcap := (Kd.R_reads' h.stk).2.1
 have hw2 : wrap64 (L - 1) = M := by have hm := (Kd.R_reads' h.stk).2.2.2.1; unfold wrap64; omega
 have d2 : decide (0 ≤ M) = true := decide_eq_true (by omega)
 have d3 : decide (M < (st.length : Int)) = true := decide_eq_true (by omega)
 have d4 : decide (M ≤ (cS : Int)) = true := decide_eq_true (by omega)
 have p2 : (0 ≤ M) = True := eq_true (by omega)
 have p3 : (M < (st.length : Int)) = True := eq_true (by omega)
 have p4 : (M ≤ (cS : Int)) = True := eq_true (by omega)
 rw [← hM] at ha ⊢
 have HMM := Aside0.mk hM
 obtain ⟨c, hcc⟩ : ∃ c, rdOf false st L = c := ⟨_, rfl⟩
 rw [hcc]
 have HCC := Aside0.mk hcc
 clear hcc
 obtain ⟨s6, hs6⟩ : ∃ s6, s6 = st.take M.toNat := ⟨_, rfl⟩
 have hl6 : s6.length = M.toNat := by rw [hs6, List.length_take]; omega
 rw [← hs6]
 obtain ⟨st7, hst7⟩ : ∃ st7, st7 = s6 ++ [c] := ⟨_, rfl⟩
 rw [← hst7]
 have HS6 := Aside0.mk hs6
 have HL6 := Aside0.mk hl6
 have HST := Aside0.mk hst7
 have HA := Aside0.mk ha
 clear h hL h0 hok hty ha hl hM hcap hs6 hl6 hst7
 go_enter Tryd.func67, Tryd.ntmps67
 go_wp2_with (first | ((with_reducible refine gate_dst (N := 3) rfl ?_); refine box_event ?hg (N := 3) ?hd (cs := #[.int .i64 8, .string xn, .int .i64 e0, .int .i64 e1, .string e2, .slice AX lx cX]) (t := 40) ?hr ?_; (case hd => rfl); (case hg => rfl); (case hr => first | (go_simp; done) | (go_simp; rfl)); intro gx hg4 w4 hbox hb4; have HM4 := Aside0.mk (Mach.step HM.out hb4); have HK4 := Aside0.mk hb4; have HX4 := Aside0.mk hbox; have hx0 : w4.cell? ⟨gx, 0, none⟩ = some (.int .i64 8) := (blk_cell hbox 0).trans rfl; have hx1 : w4.cell? ⟨gx, 1, none⟩ = some (.string xn) := (blk_cell hbox 1).trans rfl; have hm3 : w4.cell? ⟨g, 3, none⟩ = some (.slice (some ⟨sb, 0, none⟩) st.length cS) := (blk_cell HM4.out.blk 3).trans rfl; clear hb4 hbox hg4))
 have hR := Kd.R_cell false HM4.out.stk M (by have := HL.out; have := HMM.out; omega) (by have := HL.out; have := HMM.out; omega)
 rw [HA.out] at hR
 obtain ⟨hcM, _⟩ := hR
 have hR2 := Kd.R_cell false HM4.out.stk L (by have := HL.out; omega) (by have := HL.out.1; omega)
 rw [HCC.out] at hR2
 obtain ⟨hcL, _⟩ := hR2
 have HM6 := Aside0.mk (Mach.step HM4.out (Below.drew (Below.refl _ w4)))
 have HK6 := Aside0.mk (Below.drew HK4.out)
 refine start_ (n := 30) (S := fun w' => w'.cell? ⟨g, 3, none⟩ = some (.slice (some ⟨sb, 0, none⟩) st.length cS) ∧ w'.cell? ⟨sb, M.toNat, none⟩ = some (.bool false) ∧ w'.cell? ⟨sb, L.toNat, none⟩ = some (.bool c)) (ds := [26, 29]) #[false, false, false, false, false, false, false, false, false, false, false, false, false, false, false, false, false, false, false, false, false, false, false, false, false, false, false, false, false, false] (by kernel_rfl) rfl rfl ⟨hm3, hcM, hcL⟩ (fun hHeld => ?_)
 refine qpk 0 (some 153) ?_
 refine qpk 1 (some 154) ?_
 refine qpk 2 (some 155) ?_
 refine qpk 3 (some 156) ?_
 refine qpk 5 (some 158) ?_
 refine qpk 6 (some 159) ?_
 refine qpk 8 (some 161) ?_
 refine qpk 9 (some 162) ?_
 refine qpk 10 (some 163) ?_
 refine qpk 12 (some 165) ?_
 refine qpk 13 (some 166) ?_
 refine qtk3 4 (some 157) hHeld ?_
 refine qpk 7 (some 160) ?_
 refine qtk3 11 (some 164) hHeld ?_
 refine qpk 14 (some 167) ?_
 refine qtk3 15 (some 168) hHeld ?_
 refine qpk 16 (some 169) ?_
 refine qpk 17 (some 170) ?_
 refine qpk 18 (some 171) ?_
 refine qpk 19 (some 172) ?_
 refine qpk 21 (some 174) ?_
 refine qtk3 20 (some 173) hHeld ?_
 refine qpk 22 (some 175) ?_
 refine qtk3 23 (some 176) hHeld ?_
 refine qpk 24 (some 177) ?_
 refine one_ (i := 25) (N := some 178) #[Y,Y,Y,Y,Y,Y,Y,Y,Y,Y,Y,Y,Y,Y,Y,Y,Y,Y,Y,Y,Y,Y,Y,Y,Y,Y,Z,Z,Z,Z] rfl rfl (by kernel_rfl) (by decide) (fun K hK => ?_)
 refine value_ (w1 := ?_) (v := ?_) (by rfl) rfl ?_ ?_
 rotate_left 2
 ·go_simp
  constructor
  ·rfl
  rfl
 refine hK.out _ _ ⟨(cellAl hm3), (cellAl hcM), (cellAl hcL)⟩ (fun hHeld => ?_)
 clear hK K
 refine norm_ (a' := ?_) ?_ ?_
 rotate_left
 ·show Act.put _ (some 178) _ = _
  simp only [Act.put, List.setIfInBounds_toArray, List.set_cons_zero, List.set_cons_succ, i64_w, i32_w]
  rfl
 refine last_ (i := 26) (N := some 179) #[Y,Y,Y,Y,Y,Y,Y,Y,Y,Y,Y,Y,Y,Y,Y,Y,Y,Y,Y,Y,Y,Y,Y,Y,Y,Y,Y,Z,Z,Z] rfl rfl (by kernel_rfl) (by decide) (fun K hK => ?_)
 refine Kd.R_append_step Kd.bool (w0 := W) W.heap.size (by rfl) (.tmp 160) (.tmp 178) 46 4 (.bool false) 1 rfl Tryd.underlying46 info4d rfl (by decide) (by decide) (.slice (some ⟨sb, 0, none⟩) s6.length cS) s6 c [.bool c] (fun k => some k ≠ (Value.slice AB bs.length cB).ownBlock) (fun _ => False) (by rw [HL6.out]; rfl) rfl rfl (fun _ hk => hk.elim) (fun k hk => Mach.fresh HM6.out k hk) (by have := R_take HM6.out.stk M.toNat (by have := HL.out; have := HMM.out; omega); rw [← HS6.out] at this; exact this) HM6.out.below HM6.out.below.size (by have := HLE.out; have := HL6.out; have := HL.out; have := HMM.out; omega) ?_
 intro v7 w7 ho7 hb7 hg7 hat7
 rw [← HST.out] at ho7
 obtain ⟨AS7, cS7, rfl⟩ := Kd.R_slice ho7
 have b7 := (Mach.turned HM6.out hb7 hg7 ho7).1
 have c7 : w7.cell? ⟨g, 3, none⟩ = some (.slice (some ⟨sb, 0, none⟩) st.length cS) := (blk_cell b7 3).trans rfl
 have f7 : w7.frozen? ⟨g, 3, none⟩ = false := blk_frozen b7 3
 have H7 := Aside0.mk (And.intro hb7 (And.intro hg7 ho7))
 clear hb7 hg7 ho7 hat7 b7
 refine hK.out _ _ ?_
 clear hK K
 refine norm_ (a' := ?_) ?_ ?_
 rotate_left
 ·show Act.put _ (some 179) _ = _
  simp only [Act.put, List.setIfInBounds_toArray, List.set_cons_zero, List.set_cons_succ, i64_w, i32_w]
  rfl
 refine qpk 27 (some 180) ?_
 refine qpk 28 (some 181) ?_
 refine last_ (i := 29) (N := none) #[Y,Y,Y,Y,Y,Y,Y,Y,Y,Y,Y,Y,Y,Y,Y,Y,Y,Y,Y,Y,Y,Y,Y,Y,Y,Y,Y,Y,Y,Y] rfl rfl (by kernel_rfl) (by decide) (fun K hK => ?_)
 refine skip_ (w1 := ?_) (by rfl) rfl ?_ ?_
 rotate_left
 ·go_simp
  rfl
 refine hK.out _ _ ?_
 clear hK K
 refine done_ (by kernel_rfl) ?_
 go_wp2
 first | go_end0 | ((try simp only [Exit.inBlock, Exit.then]); refine bodyPost_ret (results_none rfl _ _ _) rfl ?_)
 obtain ⟨m1, m2⟩ := (Mach.turned HM6.out H7.out.1 H7.out.2.1 H7.out.2.2).2.1 rfl
 exact ⟨rfl, _, _, m1, (KeepT.below HK6.out).trans m2⟩
set_option maxHeartbeats 8000000 in
set_option maxRecDepth 100000 in
theorem do_orboff (W w : World) (g : Nat) (nm : List ByteArray) (bs : List Bool) (en : List S69) (st : List Bool) (AN : Option Addr) (cN : Nat) (AB : Option Addr) (cB : Nat) (AE : Option Addr) (cE : Nat) (AS : Option Addr) (cS : Nat) (xn : ByteArray) (e0 e1 : Int) (e2 : ByteArray) (AX : Option Addr) (lx cX : Nat) (h : Mach W w g nm bs en st AN cN AB cB AE cE AS cS) (L : Int) (hL : L = (st.length : Int) - 1) (h0 : 1 ≤ L) (ha : rdOf false st (L - 1) = true) (hl : st.length < 1000000) :
  Calls Tryd.prog 67 #[.pointer (some ⟨g, 0, none⟩), .agg #[.int .i64 8, .string xn, .int .i64 e0, .int .i64 e1, .string e2, .slice AX lx cX]] w (DoPost W w g nm bs en AN cN AB cB AE cE (st.take (L - 1).toNat ++ [true])) := by
 have HM := Aside0.mk h
 have HLE := Aside0.mk hl
 have hw : wrap64 ((st.length : Int) - 1) = L := by have hm := (Kd.R_reads' h.stk).2.2.2.1; unfold wrap64; omega
 obtain ⟨sb, rfl, hsb, hok, hty⟩ := R_blk h.stk (by omega)
 have d0 : decide (0 ≤ L) = true := decide_eq_true (by omega)
 have d1 : decide (L < (st.length : Int)) = true := decide_eq_true (by omega)
 have p0 : (0 ≤ L) = True := eq_true (by omega)
 have p1 : (L < (st.length : Int)) = True := eq_true (by omega)
 have HL := Aside0.mk (And.intro hL h0)
 obtain ⟨M, hM⟩ : ∃ M, M = L - 1 := ⟨_, rfl⟩
 have hcap := (Kd.R_reads' h.stk).2.1
 have hw2 : wrap64 (L - 1) = M := by have hm := (Kd.R_reads' h.stk).2.2.2.1; unfold wrap64; omega
 have d2 : decide (0 ≤ M) = true := decide_eq_true (by omega)
 have d3 : decide (M < (st.length : Int)) = true := decide_eq_true (by omega)
 have d4 : decide (M ≤ (cS : Int)) = true := decide_eq_true (by omega)
 have p2 : (0 ≤ M) = True := eq_true (by omega)
 have p3 : (M < (st.length : Int)) = True := eq_true (by omega)
 have p4 : (M ≤ (cS : Int)) = True := eq_true (by omega)
 rw [← hM] at ha ⊢
 have HMM := Aside0.mk hM
 obtain ⟨s6, hs6⟩ : ∃ s6, s6 = st.take M.toNat := ⟨_, rfl⟩
 have hl6 : s6.length = M.toNat := by rw [hs6, List.length_take]; omega
 rw [← hs6]
 obtain ⟨st7, hst7⟩ : ∃ st7, st7 = s6 ++ [true] := ⟨_, rfl⟩
 rw [← hst7]
 have HS6 := Aside0.mk hs6
 have HL6 := Aside0.mk hl6
 have HST := Aside0.mk hst7
 have HA := Aside0.mk ha
 clear h hL h0 hok hty ha hl hM hcap hs6 hl6 hst7
 go_enter Tryd.func67, Tryd.ntmps67
 go_wp2_with (first | ((with_reducible refine gate_dst (N := 3) rfl ?_); refine box_event ?hg (N := 3) ?hd (cs := #[.int .i64 8, .string xn, .int .i64 e0, .int .i64 e1, .string e2, .slice AX lx cX]) (t := 40) ?hr ?_; (case hd => rfl); (case hg => rfl); (case hr => first | (go_simp; done) | (go_simp; rfl)); intro gx hg4 w4 hbox hb4; have HM4 := Aside0.mk (Mach.step HM.out hb4); have HK4 := Aside0.mk hb4; have HX4 := Aside0.mk hbox; have hx0 : w4.cell? ⟨gx, 0, none⟩ = some (.int .i64 8) := (blk_cell hbox 0).trans rfl; have hx1 : w4.cell? ⟨gx, 1, none⟩ = some (.string xn) := (blk_cell hbox 1).trans rfl; have hm3 : w4.cell? ⟨g, 3, none⟩ = some (.slice (some ⟨sb, 0, none⟩) st.length cS) := (blk_cell HM4.out.blk 3).trans rfl; clear hb4 hbox hg4))
 have hR := Kd.R_cell false HM4.out.stk M (by have := HL.out; have := HMM.out; omega) (by have := HL.out; have := HMM.out; omega)
 rw [HA.out] at hR
 obtain ⟨hcM, _⟩ := hR
 have HM6 := Aside0.mk (Mach.step HM4.out (Below.drew (Below.refl _ w4)))
 have HK6 := Aside0.mk (Below.drew HK4.out)
 refine start_ (n := 30) (S := fun w' => w'.cell? ⟨g, 3, none⟩ = some (.slice (some ⟨sb, 0, none⟩) st.length cS) ∧ w'.cell? ⟨sb, M.toNat, none⟩ = some (.bool true)) (ds := [26, 29]) #[Z,Z,Z,Z,Z,Z,Z,Z,Z,Z,Z,Z,Z,Z,Z,Z,Z,Z,Z,Z,Z,Z,Z,Z,Z,Z,Z,Z,Z,Z] (by kernel_rfl) rfl rfl ⟨hm3, hcM⟩ (fun hHeld => ?_)
 refine qpk 0 (some 153) ?_
 refine qpk 1 (some 154) ?_
 refine qpk 2 (some 155) ?_
 refine qpk 3 (some 156) ?_
 refine qpk 5 (some 158) ?_
 refine qpk 6 (some 159) ?_
 refine qpk 8 (some 161) ?_
 refine qpk 9 (some 162) ?_
 refine qpk 10 (some 163) ?_
 refine qpk 12 (some 165) ?_
 refine qpk 13 (some 166) ?_
 refine qtk2 4 (some 157) hHeld ?_
 refine qpk 7 (some 160) ?_
 refine qtk2 11 (some 164) hHeld ?_
 refine qpk 14 (some 167) ?_
 refine qtk2 15 (some 168) hHeld ?_
 refine qpk 16 (some 169) ?_
 refine qpx 17 (some 170) ?_
 refine qpx 18 (some 171) ?_
 refine qpx 19 (some 172) ?_
 refine qpx 20 (some 173) ?_
 refine qpx 21 (some 174) ?_
 refine qpx 22 (some 175) ?_
 refine qpx 23 (some 176) ?_
 refine qpk 24 (some 177) ?_
 refine one_ (i := 25) (N := some 178) #[Y,Y,Y,Y,Y,Y,Y,Y,Y,Y,Y,Y,Y,Y,Y,Y,Y,Y,Y,Y,Y,Y,Y,Y,Y,Y,Z,Z,Z,Z] rfl rfl (by kernel_rfl) (by decide) (fun K hK => ?_)
 refine value_ (w1 := ?_) (v := ?_) (by rfl) rfl ?_ ?_
 rotate_left 2
 ·go_simp
  constructor
  ·rfl
  rfl
 refine hK.out _ _ ⟨(cellAl hm3), (cellAl hcM)⟩ (fun hHeld => ?_)
 clear hK K
 refine norm_ (a' := ?_) ?_ ?_
 rotate_left
 ·show Act.put _ (some 178) _ = _
  simp only [Act.put, List.setIfInBounds_toArray, List.set_cons_zero, List.set_cons_succ, i64_w, i32_w]
  rfl
 refine last_ (i := 26) (N := some 179) #[Y,Y,Y,Y,Y,Y,Y,Y,Y,Y,Y,Y,Y,Y,Y,Y,Y,Y,Y,Y,Y,Y,Y,Y,Y,Y,Y,Z,Z,Z] rfl rfl (by kernel_rfl) (by decide) (fun K hK => ?_)
 refine Kd.R_append_step Kd.bool (w0 := W) W.heap.size (by rfl) (.tmp 160) (.tmp 178) 46 4 (.bool false) 1 rfl Tryd.underlying46 info4d rfl (by decide) (by decide) (.slice (some ⟨sb, 0, none⟩) s6.length cS) s6 true [.bool true] (fun k => some k ≠ (Value.slice AB bs.length cB).ownBlock) (fun _ => False) (by rw [HL6.out]; rfl) rfl rfl (fun _ hk => hk.elim) (fun k hk => Mach.fresh HM6.out k hk) (by have := R_take HM6.out.stk M.toNat (by have := HL.out; have := HMM.out; omega); rw [← HS6.out] at this; exact this) HM6.out.below HM6.out.below.size (by have := HLE.out; have := HL6.out; have := HL.out; have := HMM.out; omega) ?_
 intro v7 w7 ho7 hb7 hg7 hat7
 rw [← HST.out] at ho7
 obtain ⟨AS7, cS7, rfl⟩ := Kd.R_slice ho7
 have b7 := (Mach.turned HM6.out hb7 hg7 ho7).1
 have c7 : w7.cell? ⟨g, 3, none⟩ = some (.slice (some ⟨sb, 0, none⟩) st.length cS) := (blk_cell b7 3).trans rfl
 have f7 : w7.frozen? ⟨g, 3, none⟩ = false := blk_frozen b7 3
 have H7 := Aside0.mk (And.intro hb7 (And.intro hg7 ho7))
 clear hb7 hg7 ho7 hat7 b7
 refine hK.out _ _ ?_
 clear hK K
 refine norm_ (a' := ?_) ?_ ?_
 rotate_left
 ·show Act.put _ (some 179) _ = _
  simp only [Act.put, List.setIfInBounds_toArray, List.set_cons_zero, List.set_cons_succ, i64_w, i32_w]
  rfl
 refine qpk 27 (some 180) ?_
 refine qpk 28 (some 181) ?_
 refine last_ (i := 29) (N := none) #[Y,Y,Y,Y,Y,Y,Y,Y,Y,Y,Y,Y,Y,Y,Y,Y,Y,Y,Y,Y,Y,Y,Y,Y,Y,Y,Y,Y,Y,Y] rfl rfl (by kernel_rfl) (by decide) (fun K hK => ?_)
 refine skip_ (w1 := ?_) (by rfl) rfl ?_ ?_
 rotate_left
 ·go_simp
  rfl
 refine hK.out _ _ ?_
 clear hK K
 refine done_ (by kernel_rfl) ?_
 go_wp2
 first | go_end0 | ((try simp only [Exit.inBlock, Exit.then]); refine bodyPost_ret (results_none rfl _ _ _) rfl ?_)
 obtain ⟨m1, m2⟩ := (Mach.turned HM6.out H7.out.1 H7.out.2.1 H7.out.2.2).2.1 rfl
 exact ⟨rfl, _, _, m1, (KeepT.below HK6.out).trans m2⟩
set_option maxHeartbeats 8000000 in
set_option maxRecDepth 100000 in
theorem do_cmp_err (W w : World) (g : Nat) (nm : List ByteArray) (bs : List Bool) (en : List S69) (st : List Bool) (AN : Option Addr) (cN : Nat) (AB : Option Addr) (cB : Nat) (AE : Option Addr) (cE : Nat) (AS : Option Addr) (cS : Nat) (xn : ByteArray) (e0 e1 : Int) (e2 : ByteArray) (AX : Option Addr) (lx cX : Nat) (h : Mach W w g nm bs en st AN cN AB cB AE cE AS cS) (ks : List S34) (hlx : lx = ks.length) (hks : Kd.C k34 W AX ks.length ks) (hkc : ks.length ≤ cX) (hT : UT W) (k : Nat) (n f : Int) (hev : expr_Eval.f k e0 e1 e2 ks en = some (n, f)) (hf : f ≠ 0) (hl : st.length < 1000000) :
  Calls Tryd.prog 67 #[.pointer (some ⟨g, 0, none⟩), .agg #[.int .i64 2, .string xn, .int .i64 e0, .int .i64 e1, .string e2, .slice AX lx cX]] w (DoPost W w g nm bs en AN cN AB cB AE cE (st ++ [false])) := by
 subst hlx
 have HM := Aside0.mk h
 have HLE := Aside0.mk hl
 have HKS := Aside0.mk hks
 have HKC := Aside0.mk hkc
 have HT := Aside0.mk hT
 have HEV := Aside0.mk hev
 have hu34 := Tryd.underlying34
 have t1 : (f == 0) = false := beq_eq_false_iff_ne.mpr hf
 obtain ⟨st7, hst7⟩ : ∃ st7, st7 = st ++ [false] := ⟨_, rfl⟩
 rw [← hst7]
 have HST := Aside0.mk hst7
 clear h hl hks hkc hT hev hst7 hf
 go_enter Tryd.func67, Tryd.ntmps67
 go_wp2_with (first | ((with_reducible refine gate_dst (N := 3) rfl ?_); refine box_event ?hg (N := 3) ?hd (cs := #[.int .i64 2, .string xn, .int .i64 e0, .int .i64 e1, .string e2, .slice AX ks.length cX]) (t := 40) ?hr ?_; (case hd => rfl); (case hg => rfl); (case hr => first | (go_simp; done) | (go_simp; rfl)); intro gx hg4 w4 hbox hb4; have HM4 := Aside0.mk (Mach.step HM.out hb4); have HK4 := Aside0.mk hb4; have HX4 := Aside0.mk hbox; have hx0 : w4.cell? ⟨gx, 0, none⟩ = some (.int .i64 2) := (blk_cell hbox 0).trans rfl; have hx1 : w4.cell? ⟨gx, 1, none⟩ = some (.string xn) := (blk_cell hbox 1).trans rfl; have hm3 : w4.cell? ⟨g, 3, none⟩ = some (.slice AS st.length cS) := (blk_cell HM4.out.blk 3).trans rfl; clear hb4 hbox hg4))
 have hx2 : w4.cell? ⟨gx, 2, none⟩ = some (.int .i64 e0) := (blk_cell HX4.out 2).trans rfl
 have hx3 : w4.cell? ⟨gx, 3, none⟩ = some (.int .i64 e1) := (blk_cell HX4.out 3).trans rfl
 have hx4 : w4.cell? ⟨gx, 4, none⟩ = some (.string e2) := (blk_cell HX4.out 4).trans rfl
 have hx5 : w4.cell? ⟨gx, 5, none⟩ = some (.slice AX ks.length cX) := (blk_cell HX4.out 5).trans rfl
 have hm2 : w4.cell? ⟨g, 2, none⟩ = some (.slice AE en.length cE) := (blk_cell HM4.out.blk 2).trans rfl
 have HEval := Aside0.mk (expr_Eval.calls k e0 e1 e2 AX cX ks AE cE en n f w4.drew (Kd.C_below HKS.out (Below.drew HM4.out.below)) HKC.out (Kd.C_below HM4.out.env.1 (Below.drew HM4.out.below)) HM4.out.env.2 HEV.out (UT.below HT.out (Below.drew HM4.out.below)))
 refine start_ (n := 12) (S := fun w' => w'.cell? ⟨gx, 2, none⟩ = some (.int .i64 e0) ∧ w'.cell? ⟨gx, 3, none⟩ = some (.int .i64 e1) ∧ w'.cell? ⟨gx, 4, none⟩ = some (.string e2) ∧ w'.cell? ⟨gx, 5, none⟩ = some (.slice AX ks.length cX) ∧ w'.cell? ⟨g, 2, none⟩ = some (.slice AE en.length cE)) (ds := []) #[false, false, false, false, false, false, false, false, false, false, false, false] (by kernel_rfl) rfl rfl ⟨hx2, hx3, hx4, hx5, hm2⟩ (fun hHeld => ?_)
 refine qpk 0 (some 54) ?_
 refine qpk 2 (some 56) ?_
 refine qpk 3 (some 57) ?_
 refine qpk 4 (some 58) ?_
 refine qtk5 1 (some 55) hHeld ?_
 refine qtk5 5 (some 59) hHeld ?_
 refine one_ (i := 6) (N := some 60) #[Y,Y,Y,Y,Y,Y,Y,Z,Z,Z,Z,Z] rfl rfl (by kernel_rfl) (by decide) (fun K hK => ?_)
 refine goes_ Tryd.func30 (by kernel_rfl) rfl #[.agg #[.int .i64 e0, .int .i64 e1, .string e2, .slice AX ks.length cX], .slice AE en.length cE] (by rfl) rfl rfl (by simp only [List.map_toArray, List.map_cons, List.map_nil]; rfl) ?_
 with_reducible refine (HEval.out).mono ?_
 rintro e w6 ⟨rfl, hb6⟩
 refine ⟨_, rfl, ?_⟩
 have HM6 := Aside0.mk (Mach.step (Mach.step HM4.out (Below.drew (Below.refl _ w4))) hb6)
 have HK6 := Aside0.mk (below_then (Below.drew HK4.out) (Below.drew HK4.out).size hb6)
 have hm6 : w6.cell? ⟨g, 3, none⟩ = some (.slice AS st.length cS) := (blk_cell HM6.out.blk 3).trans rfl
 have fm6 : w6.frozen? ⟨g, 3, none⟩ = false := blk_frozen HM6.out.blk 3
 have H6b := Aside0.mk hb6
 clear hb6
 refine hK.out _ _ ⟨(pw_cell_below H6b.out hx2), (pw_cell_below H6b.out hx3), (pw_cell_below H6b.out hx4), (pw_cell_below H6b.out hx5), (pw_cell_below H6b.out hm2)⟩ (fun hHeld => ?_)
 clear hK K
 refine norm_ (a' := ?_) ?_ ?_
 rotate_left
 ·show Act.put _ (some 60) _ = _
  simp only [Act.put, List.setIfInBounds_toArray, List.set_cons_zero, List.set_cons_succ, i64_w, i32_w]
  rfl
 refine qpk 7 (some 53) ?_
 refine qpk 8 (some 61) ?_
 refine qpk 9 (some 62) ?_
 refine qpk 10 (some 6) ?_
 refine qpk 11 (some 7) ?_
 refine done_ (by kernel_rfl) ?_
 go_wp2_with (first | ((with_reducible refine gate_builtin (b := .append) (xs := #[.tmp 67, .tmp 74]) rfl ?_); at_builtin; refine Kd.R_append Kd.bool (w0 := W) W.heap.size rfl (.tmp 67) (.tmp 74) 46 4 (.bool false) 1 rfl Tryd.underlying46 info4d rfl (by decide) (by decide) (.slice AS st.length cS) st false [.bool false] (fun k => some k ≠ (Value.slice AB bs.length cB).ownBlock) (fun _ => False) rfl rfl ?aP (fun _ hk => hk.elim) (fun k hk => Mach.fresh HM6.out k hk) HM6.out.stk HM6.out.below HM6.out.below.size (by have := HLE.out; omega) ?_; (case aP => exact rfl); intro v7 w7 ho7 hb7 hg7 hat7; rw [← HST.out] at ho7; obtain ⟨AS7, cS7, e7⟩ := Kd.R_slice ho7; subst e7; have b7 := (Mach.turned HM6.out hb7 hg7 ho7).1; have c7 : w7.cell? ⟨g, 3, none⟩ = some (.slice AS st.length cS) := (blk_cell b7 3).trans rfl; have f7 : w7.frozen? ⟨g, 3, none⟩ = false := blk_frozen b7 3; have H7 := Aside0.mk (And.intro hb7 (And.intro hg7 ho7)); clear hb7 hg7 ho7 hat7 b7))
 first | go_end0 | ((try simp only [Exit.inBlock, Exit.then]); refine bodyPost_ret (results_none rfl _ _ _) rfl ?_)
 obtain ⟨m1, m2⟩ := (Mach.turned HM6.out H7.out.1 H7.out.2.1 H7.out.2.2).2.1 rfl
 exact ⟨rfl, _, _, m1, (KeepT.below HK6.out).trans m2⟩
set_option maxHeartbeats 8000000 in
set_option maxRecDepth 100000 in
theorem do_cmp_zero (W w : World) (g : Nat) (nm : List ByteArray) (bs : List Bool) (en : List S69) (st : List Bool) (AN : Option Addr) (cN : Nat) (AB : Option Addr) (cB : Nat) (AE : Option Addr) (cE : Nat) (AS : Option Addr) (cS : Nat) (xn : ByteArray) (e0 e1 : Int) (e2 : ByteArray) (AX : Option Addr) (lx cX : Nat) (h : Mach W w g nm bs en st AN cN AB cB AE cE AS cS) (ks : List S34) (hlx : lx = ks.length) (hks : Kd.C k34 W AX ks.length ks) (hkc : ks.length ≤ cX) (hT : UT W) (k : Nat)  (hev : expr_Eval.f k e0 e1 e2 ks en = some (0, 0))  (hl : st.length < 1000000) :
  Calls Tryd.prog 67 #[.pointer (some ⟨g, 0, none⟩), .agg #[.int .i64 2, .string xn, .int .i64 e0, .int .i64 e1, .string e2, .slice AX lx cX]] w (DoPost W w g nm bs en AN cN AB cB AE cE (st ++ [false])) := by
 subst hlx
 have HM := Aside0.mk h
 have HLE := Aside0.mk hl
 have HKS := Aside0.mk hks
 have HKC := Aside0.mk hkc
 have HT := Aside0.mk hT
 have HEV := Aside0.mk hev
 have hu34 := Tryd.underlying34
 obtain ⟨st7, hst7⟩ : ∃ st7, st7 = st ++ [false] := ⟨_, rfl⟩
 rw [← hst7]
 have HST := Aside0.mk hst7
 clear h hl hks hkc hT hev hst7
 go_enter Tryd.func67, Tryd.ntmps67
 go_wp2_with (first | ((with_reducible refine gate_dst (N := 3) rfl ?_); refine box_event ?hg (N := 3) ?hd (cs := #[.int .i64 2, .string xn, .int .i64 e0, .int .i64 e1, .string e2, .slice AX ks.length cX]) (t := 40) ?hr ?_; (case hd => rfl); (case hg => rfl); (case hr => first | (go_simp; done) | (go_simp; rfl)); intro gx hg4 w4 hbox hb4; have HM4 := Aside0.mk (Mach.step HM.out hb4); have HK4 := Aside0.mk hb4; have HX4 := Aside0.mk hbox; have hx0 : w4.cell? ⟨gx, 0, none⟩ = some (.int .i64 2) := (blk_cell hbox 0).trans rfl; have hx1 : w4.cell? ⟨gx, 1, none⟩ = some (.string xn) := (blk_cell hbox 1).trans rfl; have hm3 : w4.cell? ⟨g, 3, none⟩ = some (.slice AS st.length cS) := (blk_cell HM4.out.blk 3).trans rfl; clear hb4 hbox hg4))
 have hx2 : w4.cell? ⟨gx, 2, none⟩ = some (.int .i64 e0) := (blk_cell HX4.out 2).trans rfl
 have hx3 : w4.cell? ⟨gx, 3, none⟩ = some (.int .i64 e1) := (blk_cell HX4.out 3).trans rfl
 have hx4 : w4.cell? ⟨gx, 4, none⟩ = some (.string e2) := (blk_cell HX4.out 4).trans rfl
 have hx5 : w4.cell? ⟨gx, 5, none⟩ = some (.slice AX ks.length cX) := (blk_cell HX4.out 5).trans rfl
 have hm2 : w4.cell? ⟨g, 2, none⟩ = some (.slice AE en.length cE) := (blk_cell HM4.out.blk 2).trans rfl
 have HEval := Aside0.mk (expr_Eval.calls k e0 e1 e2 AX cX ks AE cE en 0 0 w4.drew (Kd.C_below HKS.out (Below.drew HM4.out.below)) HKC.out (Kd.C_below HM4.out.env.1 (Below.drew HM4.out.below)) HM4.out.env.2 HEV.out (UT.below HT.out (Below.drew HM4.out.below)))
 refine start_ (n := 12) (S := fun w' => w'.cell? ⟨gx, 2, none⟩ = some (.int .i64 e0) ∧ w'.cell? ⟨gx, 3, none⟩ = some (.int .i64 e1) ∧ w'.cell? ⟨gx, 4, none⟩ = some (.string e2) ∧ w'.cell? ⟨gx, 5, none⟩ = some (.slice AX ks.length cX) ∧ w'.cell? ⟨g, 2, none⟩ = some (.slice AE en.length cE)) (ds := []) #[false, false, false, false, false, false, false, false, false, false, false, false] (by kernel_rfl) rfl rfl ⟨hx2, hx3, hx4, hx5, hm2⟩ (fun hHeld => ?_)
 refine qpk 0 (some 54) ?_
 refine qpk 2 (some 56) ?_
 refine qpk 3 (some 57) ?_
 refine qpk 4 (some 58) ?_
 refine qtk5 1 (some 55) hHeld ?_
 refine qtk5 5 (some 59) hHeld ?_
 refine one_ (i := 6) (N := some 60) #[Y,Y,Y,Y,Y,Y,Y,Z,Z,Z,Z,Z] rfl rfl (by kernel_rfl) (by decide) (fun K hK => ?_)
 refine goes_ Tryd.func30 (by kernel_rfl) rfl #[.agg #[.int .i64 e0, .int .i64 e1, .string e2, .slice AX ks.length cX], .slice AE en.length cE] (by rfl) rfl rfl (by simp only [List.map_toArray, List.map_cons, List.map_nil]; rfl) ?_
 with_reducible refine (HEval.out).mono ?_
 rintro e w6 ⟨rfl, hb6⟩
 refine ⟨_, rfl, ?_⟩
 have HM6 := Aside0.mk (Mach.step (Mach.step HM4.out (Below.drew (Below.refl _ w4))) hb6)
 have HK6 := Aside0.mk (below_then (Below.drew HK4.out) (Below.drew HK4.out).size hb6)
 have hm6 : w6.cell? ⟨g, 3, none⟩ = some (.slice AS st.length cS) := (blk_cell HM6.out.blk 3).trans rfl
 have fm6 : w6.frozen? ⟨g, 3, none⟩ = false := blk_frozen HM6.out.blk 3
 have H6b := Aside0.mk hb6
 clear hb6
 refine hK.out _ _ ⟨(pw_cell_below H6b.out hx2), (pw_cell_below H6b.out hx3), (pw_cell_below H6b.out hx4), (pw_cell_below H6b.out hx5), (pw_cell_below H6b.out hm2)⟩ (fun hHeld => ?_)
 clear hK K
 refine norm_ (a' := ?_) ?_ ?_
 rotate_left
 ·show Act.put _ (some 60) _ = _
  simp only [Act.put, List.setIfInBounds_toArray, List.set_cons_zero, List.set_cons_succ, i64_w, i32_w]
  rfl
 refine qpk 7 (some 53) ?_
 refine qpk 8 (some 61) ?_
 refine qpk 9 (some 62) ?_
 refine qpk 10 (some 6) ?_
 refine qpk 11 (some 7) ?_
 refine done_ (by kernel_rfl) ?_
 go_wp2_with (first | ((with_reducible refine gate_builtin (b := .append) (xs := #[.tmp 67, .tmp 74]) rfl ?_); at_builtin; refine Kd.R_append Kd.bool (w0 := W) W.heap.size rfl (.tmp 67) (.tmp 74) 46 4 (.bool false) 1 rfl Tryd.underlying46 info4d rfl (by decide) (by decide) (.slice AS st.length cS) st false [.bool false] (fun k => some k ≠ (Value.slice AB bs.length cB).ownBlock) (fun _ => False) rfl rfl ?aP (fun _ hk => hk.elim) (fun k hk => Mach.fresh HM6.out k hk) HM6.out.stk HM6.out.below HM6.out.below.size (by have := HLE.out; omega) ?_; (case aP => exact rfl); intro v7 w7 ho7 hb7 hg7 hat7; rw [← HST.out] at ho7; obtain ⟨AS7, cS7, e7⟩ := Kd.R_slice ho7; subst e7; have b7 := (Mach.turned HM6.out hb7 hg7 ho7).1; have c7 : w7.cell? ⟨g, 3, none⟩ = some (.slice AS st.length cS) := (blk_cell b7 3).trans rfl; have f7 : w7.frozen? ⟨g, 3, none⟩ = false := blk_frozen b7 3; have H7 := Aside0.mk (And.intro hb7 (And.intro hg7 ho7)); clear hb7 hg7 ho7 hat7 b7))
 first | go_end0 | ((try simp only [Exit.inBlock, Exit.then]); refine bodyPost_ret (results_none rfl _ _ _) rfl ?_)
 obtain ⟨m1, m2⟩ := (Mach.turned HM6.out H7.out.1 H7.out.2.1 H7.out.2.2).2.1 rfl
 exact ⟨rfl, _, _, m1, (KeepT.below HK6.out).trans m2⟩
set_option maxHeartbeats 8000000 in
set_option maxRecDepth 100000 in
theorem do_cmp_one (W w : World) (g : Nat) (nm : List ByteArray) (bs : List Bool) (en : List S69) (st : List Bool) (AN : Option Addr) (cN : Nat) (AB : Option Addr) (cB : Nat) (AE : Option Addr) (cE : Nat) (AS : Option Addr) (cS : Nat) (xn : ByteArray) (e0 e1 : Int) (e2 : ByteArray) (AX : Option Addr) (lx cX : Nat) (h : Mach W w g nm bs en st AN cN AB cB AE cE AS cS) (ks : List S34) (hlx : lx = ks.length) (hks : Kd.C k34 W AX ks.length ks) (hkc : ks.length ≤ cX) (hT : UT W) (k : Nat) (n : Int) (hev : expr_Eval.f k e0 e1 e2 ks en = some (n, 0)) (hf : n ≠ 0) (hl : st.length < 1000000) :
  Calls Tryd.prog 67 #[.pointer (some ⟨g, 0, none⟩), .agg #[.int .i64 2, .string xn, .int .i64 e0, .int .i64 e1, .string e2, .slice AX lx cX]] w (DoPost W w g nm bs en AN cN AB cB AE cE (st ++ [true])) := by
 subst hlx
 have HM := Aside0.mk h
 have HLE := Aside0.mk hl
 have HKS := Aside0.mk hks
 have HKC := Aside0.mk hkc
 have HT := Aside0.mk hT
 have HEV := Aside0.mk hev
 have hu34 := Tryd.underlying34
 have t1 : (n == 0) = false := beq_eq_false_iff_ne.mpr hf
 have t2 : (n != 0) = true := bne_iff_ne.mpr hf
 obtain ⟨st7, hst7⟩ : ∃ st7, st7 = st ++ [true] := ⟨_, rfl⟩
 rw [← hst7]
 have HST := Aside0.mk hst7
 clear h hl hks hkc hT hev hst7 hf
 go_enter Tryd.func67, Tryd.ntmps67
 go_wp2_with (first | ((with_reducible refine gate_dst (N := 3) rfl ?_); refine box_event ?hg (N := 3) ?hd (cs := #[.int .i64 2, .string xn, .int .i64 e0, .int .i64 e1, .string e2, .slice AX ks.length cX]) (t := 40) ?hr ?_; (case hd => rfl); (case hg => rfl); (case hr => first | (go_simp; done) | (go_simp; rfl)); intro gx hg4 w4 hbox hb4; have HM4 := Aside0.mk (Mach.step HM.out hb4); have HK4 := Aside0.mk hb4; have HX4 := Aside0.mk hbox; have hx0 : w4.cell? ⟨gx, 0, none⟩ = some (.int .i64 2) := (blk_cell hbox 0).trans rfl; have hx1 : w4.cell? ⟨gx, 1, none⟩ = some (.string xn) := (blk_cell hbox 1).trans rfl; have hm3 : w4.cell? ⟨g, 3, none⟩ = some (.slice AS st.length cS) := (blk_cell HM4.out.blk 3).trans rfl; clear hb4 hbox hg4))
 have hx2 : w4.cell? ⟨gx, 2, none⟩ = some (.int .i64 e0) := (blk_cell HX4.out 2).trans rfl
 have hx3 : w4.cell? ⟨gx, 3, none⟩ = some (.int .i64 e1) := (blk_cell HX4.out 3).trans rfl
 have hx4 : w4.cell? ⟨gx, 4, none⟩ = some (.string e2) := (blk_cell HX4.out 4).trans rfl
 have hx5 : w4.cell? ⟨gx, 5, none⟩ = some (.slice AX ks.length cX) := (blk_cell HX4.out 5).trans rfl
 have hm2 : w4.cell? ⟨g, 2, none⟩ = some (.slice AE en.length cE) := (blk_cell HM4.out.blk 2).trans rfl
 have HEval := Aside0.mk (expr_Eval.calls k e0 e1 e2 AX cX ks AE cE en n 0 w4.drew (Kd.C_below HKS.out (Below.drew HM4.out.below)) HKC.out (Kd.C_below HM4.out.env.1 (Below.drew HM4.out.below)) HM4.out.env.2 HEV.out (UT.below HT.out (Below.drew HM4.out.below)))
 refine start_ (n := 12) (S := fun w' => w'.cell? ⟨gx, 2, none⟩ = some (.int .i64 e0) ∧ w'.cell? ⟨gx, 3, none⟩ = some (.int .i64 e1) ∧ w'.cell? ⟨gx, 4, none⟩ = some (.string e2) ∧ w'.cell? ⟨gx, 5, none⟩ = some (.slice AX ks.length cX) ∧ w'.cell? ⟨g, 2, none⟩ = some (.slice AE en.length cE)) (ds := []) #[false, false, false, false, false, false, false, false, false, false, false, false] (by kernel_rfl) rfl rfl ⟨hx2, hx3, hx4, hx5, hm2⟩ (fun hHeld => ?_)
 refine qpk 0 (some 54) ?_
 refine qpk 2 (some 56) ?_
 refine qpk 3 (some 57) ?_
 refine qpk 4 (some 58) ?_
 refine qtk5 1 (some 55) hHeld ?_
 refine qtk5 5 (some 59) hHeld ?_
 refine one_ (i := 6) (N := some 60) #[Y,Y,Y,Y,Y,Y,Y,Z,Z,Z,Z,Z] rfl rfl (by kernel_rfl) (by decide) (fun K hK => ?_)
 refine goes_ Tryd.func30 (by kernel_rfl) rfl #[.agg #[.int .i64 e0, .int .i64 e1, .string e2, .slice AX ks.length cX], .slice AE en.length cE] (by rfl) rfl rfl (by simp only [List.map_toArray, List.map_cons, List.map_nil]; rfl) ?_
 with_reducible refine (HEval.out).mono ?_
 rintro e w6 ⟨rfl, hb6⟩
 refine ⟨_, rfl, ?_⟩
 have HM6 := Aside0.mk (Mach.step (Mach.step HM4.out (Below.drew (Below.refl _ w4))) hb6)
 have HK6 := Aside0.mk (below_then (Below.drew HK4.out) (Below.drew HK4.out).size hb6)
 have hm6 : w6.cell? ⟨g, 3, none⟩ = some (.slice AS st.length cS) := (blk_cell HM6.out.blk 3).trans rfl
 have fm6 : w6.frozen? ⟨g, 3, none⟩ = false := blk_frozen HM6.out.blk 3
 have H6b := Aside0.mk hb6
 clear hb6
 refine hK.out _ _ ⟨(pw_cell_below H6b.out hx2), (pw_cell_below H6b.out hx3), (pw_cell_below H6b.out hx4), (pw_cell_below H6b.out hx5), (pw_cell_below H6b.out hm2)⟩ (fun hHeld => ?_)
 clear hK K
 refine norm_ (a' := ?_) ?_ ?_
 rotate_left
 ·show Act.put _ (some 60) _ = _
  simp only [Act.put, List.setIfInBounds_toArray, List.set_cons_zero, List.set_cons_succ, i64_w, i32_w]
  rfl
 refine qpk 7 (some 53) ?_
 refine qpk 8 (some 61) ?_
 refine qpk 9 (some 62) ?_
 refine qpk 10 (some 6) ?_
 refine qpk 11 (some 7) ?_
 refine done_ (by kernel_rfl) ?_
 go_wp2_with (first | ((with_reducible refine gate_builtin (b := .append) (xs := #[.tmp 67, .tmp 74]) rfl ?_); at_builtin; refine Kd.R_append Kd.bool (w0 := W) W.heap.size rfl (.tmp 67) (.tmp 74) 46 4 (.bool false) 1 rfl Tryd.underlying46 info4d rfl (by decide) (by decide) (.slice AS st.length cS) st true [.bool true] (fun k => some k ≠ (Value.slice AB bs.length cB).ownBlock) (fun _ => False) rfl rfl ?aP (fun _ hk => hk.elim) (fun k hk => Mach.fresh HM6.out k hk) HM6.out.stk HM6.out.below HM6.out.below.size (by have := HLE.out; omega) ?_; (case aP => exact rfl); intro v7 w7 ho7 hb7 hg7 hat7; rw [← HST.out] at ho7; obtain ⟨AS7, cS7, e7⟩ := Kd.R_slice ho7; subst e7; have b7 := (Mach.turned HM6.out hb7 hg7 ho7).1; have c7 : w7.cell? ⟨g, 3, none⟩ = some (.slice AS st.length cS) := (blk_cell b7 3).trans rfl; have f7 : w7.frozen? ⟨g, 3, none⟩ = false := blk_frozen b7 3; have H7 := Aside0.mk (And.intro hb7 (And.intro hg7 ho7)); clear hb7 hg7 ho7 hat7 b7))
 first | go_end0 | ((try simp only [Exit.inBlock, Exit.then]); refine bodyPost_ret (results_none rfl _ _ _) rfl ?_)
 obtain ⟨m1, m2⟩ := (Mach.turned HM6.out H7.out.1 H7.out.2.1 H7.out.2.2).2.1 rfl
 exact ⟨rfl, _, _, m1, (KeepT.below HK6.out).trans m2⟩
end Go.Proofs.YtiaccdaeomaogaaDoor.F
