/- The statements' 'taken' (written by gen_taken.py). -/
import Derived.Test.YtnlbmhojjjjpdaaPackK
namespace Go.Proofs.Ytnlbmhojjjjpdaa.Pk
open Go.RowKit Go.Proofs.YtnlbmhojjjjpdaaW.PrintWords Go.Proofs.YtnlbmhojjjjpdaaW.PrintLast Go.Proofs.YtnlbmhojjjjpdaaW.PrintMore
set_option linter.unusedVariables false
set_option linter.unusedSimpArgs false
/-- One thing taken up: is it the same, the bytes that are left, whether something was wrong. -/
def take1 (y : S27) (bs : List Int) : Bool × List Int × Bool :=
  if y.f0 = 0 ∨ y.f0 = 3 then ((rInt bs false).1 == y.f1, (rInt bs false).2)
  else if y.f0 = 1 then ((rBool bs false).1 == y.f2, (rBool bs false).2)
  else if y.f0 = 2 then ((strOfNums (rText (y.f3.size : Int) bs false).1).toList == y.f3.toList, (rText (y.f3.size : Int) bs false).2)
  else (true, bs, false)
def takenF (bs : List Int) : List S27 → Bool
  | [] => bs.length == 0
  | y :: l => if (take1 y bs).1 = false ∨ (take1 y bs).2.2 = true then false else takenF (take1 y bs).2.1 l
theorem takenF_bad {bs : List Int} {y : S27} {l : List S27} (h : (take1 y bs).1 = false ∨ (take1 y bs).2.2 = true) : takenF bs (y :: l) = false := by rw [takenF, if_pos h]
theorem takenF_go {bs : List Int} {y : S27} {l : List S27} (h1 : (take1 y bs).1 = true) (h2 : (take1 y bs).2.2 = false) : takenF bs (y :: l) = takenF (take1 y bs).2.1 l := by rw [takenF, if_neg (by rw [h1, h2]; simp)]
theorem rInt_sub (bs bs' : List Int) (n : Int) (bad : Bool) (h : rInt bs false = (n, bs', bad)) : ∃ k, bs' = bs.drop k := by
  unfold rInt at h; split at h
  · injection h with _ h; injection h with h _; exact ⟨0, by rw [← h]; rfl⟩
  · injection h with _ h; injection h with h _; exact ⟨_, h.symm⟩
theorem rBool_sub (bs bs' : List Int) (n : Bool) (bad : Bool) (h : rBool bs false = (n, bs', bad)) : ∃ k, bs' = bs.drop k := by
  unfold rBool at h; split at h
  · injection h with _ h; injection h with h _; exact ⟨0, by rw [← h]; rfl⟩
  · injection h with _ h; injection h with h _; exact ⟨_, h.symm⟩
theorem rText_sub (most : Int) (bs bs' : List Int) (n : List Int) (bad : Bool) (h : rText most bs false = (n, bs', bad)) : ∃ k, bs' = bs.drop k := by
  unfold rText at h; split at h
  · injection h with _ h; injection h with h _; exact ⟨0, by rw [← h]; rfl⟩
  · injection h with _ h; injection h with h _; exact ⟨_, by rw [← h, List.drop_drop]⟩
theorem sub_bytes {bs bs' : List Int} (h : ∃ k, bs' = bs.drop k) : (Bytes8 bs → Bytes8 bs') ∧ bs'.length ≤ bs.length := by
  obtain ⟨k, rfl⟩ := h
  exact ⟨fun h8 x hx => h8 x (List.mem_of_mem_drop hx), by rw [List.length_drop]; omega⟩
theorem drop_rdT {l : List S27} {i : Int} (h0 : 0 ≤ i) (h1 : i < l.length) : l.drop i.toNat = rd_T27 l i :: l.drop (i + 1).toNat := by
  have h : i.toNat < l.length := by omega
  rw [show (i + 1).toNat = i.toNat + 1 from by omega, List.drop_eq_getElem_cons h]
  unfold rd_T27; rw [List.getD, List.getElem?_eq_getElem h]; rfl
theorem KB.undrew1 {w w2 : World} {g : Nat} (k : KB w.drew w2 g) : KB w w2 g := KB.undrew (n := 1) k
theorem field_keep {w w' : World} {g : Nat} {a : Addr} {j : Nat} {v : Value} (hk : KB w w' g) (hne : a.block ≠ g) (h : w.cell? ⟨a.block, a.off + j, none⟩ = some v) : w'.cell? ⟨a.block, a.off + j, none⟩ = some v := by
  have hlt := World.block_lt_of_cell? w _ h
  have hh := hk.1.2 a.block hlt hne (by simp)
  unfold World.cell? at h ⊢
  simp only [hh] at h ⊢
  exact h
set_option maxHeartbeats 8000000 in
set_option maxRecDepth 100000 in
theorem taken_calls (A : Option Addr) (c : Nat) (bs : List Int) (AL : Option Addr) (cl : Nat) (l : List S27) (w : World) (hc : bs.length ≤ c) (hrd : ReadsInt w .u8 A bs.length bs) (h8 : Bytes8 bs) (hl : bs.length < 1000000000) (hr : Kd.C k27 w AL l.length l) (hcl : l.length ≤ cl) (hn : l.length < 1000000) :
    Calls Try.prog 23 #[.slice A bs.length c, .slice AL l.length cl] w fun e w' => e = .returned (.bool (takenF bs l)) ∧ Below w.heap.size w w' := by
  obtain ⟨R, hR⟩ : ∃ R, takenF bs l = R := ⟨_, rfl⟩
  rw [hR]
  have HR := Aside0.mk hr
  have HCL := Aside0.mk hcl
  have HN := Aside0.mk hn
  have H8 := Aside0.mk h8
  have HL := Aside0.mk hl
  have HT := Aside0.mk hR
  have HRd := Aside0.mk (Pack_Read A c w bs hc hrd hl)
  clear hr hcl hn h8 hl hR hc hrd
  go_enter Try.func23, Try.ntmps23
  go_wp2_with (first | (go_at_call 24; refine HRd.out.mono ?_; rintro e w2 ⟨g, A2, c2, rfl, hg, hb, hc2, hr2, hfar, hB⟩; have HF2 : Aside0 (∀ ad, A2 = some ad → ad.block ≠ g) := ⟨fun ad e => (hfar ad e).1⟩; have HG := Aside0.mk hg; have HB2 := Aside0.mk hB; have Hb2 := Aside0.mk hb; have HC2 := Aside0.mk hc2; have HR2 := Aside0.mk hr2; clear hg hb hc2 hr2 hfar hB))
  go_loopg [6] l.length (fun kq v6 w' => ∃ (x : Int) (cur : List Int) (A' : Option Addr) (c' : Nat), v6 = .int .i64 x ∧ Aside0 (0 ≤ x ∧ x ≤ (l.length : Int) ∧ (kq : Int) = l.length - x) ∧ Aside0 (w'.heap[g]? = some (.cells #[.slice A' cur.length c', .bool false] 70 (0, 0))) ∧ Aside0 (cur.length ≤ c') ∧ Aside0 (ReadsInt w' .u8 A' cur.length cur) ∧ Aside0 (∀ ad, A' = some ad → ad.block ≠ g) ∧ Aside0 (Bytes8 cur) ∧ Aside0 (cur.length < 1000000000) ∧ Aside0 (takenF cur (l.drop x.toNat) = R) ∧ Aside0 (Below w.heap.size w w'))
  case atStart => exact ⟨0, bs, A2, c2, rfl, ⟨by omega, by omega, by omega⟩, Hb2, HC2, HR2, HF2, H8, HL, HT, HB2⟩
  case round =>
    clear Hb2 HC2 HR2 HF2 H8 HL HT HB2 HRd
    obtain ⟨x, cur, A', c', rfl, HK, Hb, HC, HRc, HF, H8, HL, HT, HB⟩ := hrel
    have hw : wrap64 (x + 1) = x + 1 := by have := HK.out; have := HN.out; unfold wrap64; omega
    by_cases hlt : x < (l.length : Int)
    · have p1 := HK.out.1
      have q1 := hlt
      have ht := HT.out
      rw [drop_rdT p1 hlt] at ht
      obtain ⟨ad, e0, hw0, _⟩ := at_T27 HR.out x p1 q1
      have HNE : Aside0 ((ad.add (x.toNat * 5)).block ≠ g) := ⟨by have h1 := World.block_lt_of_cell? w _ hw0; have := HG.out; omega⟩
      clear hw0
      obtain ⟨ad2, e1, hx0, hx1, hx2, hx3, hx4⟩ := at_T27 (Kd.C_below HR.out HB.out) x p1 q1
      cases e0
      cases e1
      generalize rd_T27 l x = y at *
      have HKK : Aside0 (0 ≤ x ∧ x < (l.length : Int) ∧ (gk : Int) = l.length - x) := ⟨by have := HK.out; omega⟩
      have c0 : decide (x < (l.length : Int)) = true := decide_eq_true hlt
      have c1 : decide (0 ≤ x) = true := decide_eq_true p1
      replace p1 := eq_true p1
      replace q1 := eq_true q1
      clear hlt HK HT
      have hk : y.f0 = 0 ∨ y.f0 = 1 ∨ y.f0 = 2 ∨ y.f0 = 3 ∨ (y.f0 ≠ 0 ∧ y.f0 ≠ 1 ∧ y.f0 ≠ 2 ∧ y.f0 ≠ 3) := by omega
      rcases hk with h | h | h | h | h
      · obtain ⟨⟨n, cur', bad'⟩, hp⟩ : ∃ r, rInt cur false = r := ⟨_, rfl⟩
        have ht1 : take1 y cur = ((n == y.f1), cur', bad') := by unfold take1; rw [if_pos (.inl h), hp]
        have hsub := sub_bytes (rInt_sub _ _ _ _ hp)
        have H8' := Aside0.mk (hsub.1 H8.out)
        have HL' := Aside0.mk (Nat.lt_of_le_of_lt hsub.2 HL.out)
        have HP := Aside0.mk hp
        clear hsub hp
        have d0 : (y.f0 == 0) = true := beq_iff_eq.mpr (by omega)
        clear h
        obtain ⟨same, hs⟩ : ∃ b, (n == y.f1) = b := ⟨_, rfl⟩
        rw [hs] at ht1
        cases same with
        | false =>
          have hR : R = false := ht.symm.trans (takenF_bad (.inl (by rw [ht1])))
          subst hR
          clear ht ht1
          go_wp2
          refine start_ (n := 9) (S := fun w' => w'.cell? ⟨(ad.add (x.toNat * 5)).block, (ad.add (x.toNat * 5)).off + 1, none⟩ = some (.int .i64 y.f1)) (ds := []) #[false, false, false, false, false, false, false, false, false] (by kernel_rfl) rfl rfl hx1 (fun hHeld => ?_)
          refine pure_ (i := 0) (N := some 26) (v := ?_) (a' := ?_) #[true, false, false, false, false, false, false, false, false] rfl rfl (by kernel_rfl) (fun _ _ _ h => h) (Or.inl ⟨by rfl, ?_⟩) ?_ ?_
          rotate_left
          · intro w'
            go_simp
            with_reducible rfl
          rotate_left
          · simp only [Act.put, List.setIfInBounds_toArray, List.set_cons_zero, List.set_cons_succ, i64_w, i32_w]
            rfl
          refine pure_ (i := 2) (N := some 28) (v := ?_) (a' := ?_) #[true, false, true, false, false, false, false, false, false] rfl rfl (by kernel_rfl) (fun _ _ _ h => h) (Or.inl ⟨by rfl, ?_⟩) ?_ ?_
          rotate_left
          · intro w'
            go_simp
            with_reducible rfl
          rotate_left
          · simp only [Act.put, List.setIfInBounds_toArray, List.set_cons_zero, List.set_cons_succ, i64_w, i32_w]
            rfl
          refine pure_ (i := 3) (N := some 29) (v := ?_) (a' := ?_) #[true, false, true, true, false, false, false, false, false] rfl rfl (by kernel_rfl) (fun _ _ _ h => h) (Or.inl ⟨by rfl, ?_⟩) ?_ ?_
          rotate_left
          · intro w'
            go_simp
            with_reducible rfl
          rotate_left
          · simp only [Act.put, List.setIfInBounds_toArray, List.set_cons_zero, List.set_cons_succ, i64_w, i32_w]
            rfl
          refine pure_ (i := 4) (N := some 30) (v := ?_) (a' := ?_) #[true, false, true, true, true, false, false, false, false] rfl rfl (by kernel_rfl) (fun _ _ _ h => h) (Or.inl ⟨by rfl, ?_⟩) ?_ ?_
          rotate_left
          · intro w'
            go_simp
            with_reducible rfl
          rotate_left
          · simp only [Act.put, List.setIfInBounds_toArray, List.set_cons_zero, List.set_cons_succ, i64_w, i32_w]
            rfl
          refine pure_ (i := 5) (N := some 31) (v := ?_) (a' := ?_) #[true, false, true, true, true, true, false, false, false] rfl rfl (by kernel_rfl) (fun _ _ _ h => h) (Or.inl ⟨by rfl, ?_⟩) ?_ ?_
          rotate_left
          · intro w'
            go_simp
            with_reducible rfl
          rotate_left
          · simp only [Act.put, List.setIfInBounds_toArray, List.set_cons_zero, List.set_cons_succ, i64_w, i32_w]
            rfl
          refine take_ (i := 6) (N := some 32) (v := ?_) (a' := ?_) #[true, false, true, true, true, true, true, false, false] rfl rfl (by kernel_rfl) (fun _ _ _ h => h) (Or.inl ⟨by rfl, ?_⟩) hHeld ?_ ?_
          rotate_left
          · intro w' s0
            skip
            go_simp
            with_reducible rfl
          rotate_left
          · simp only [Act.put, List.setIfInBounds_toArray, List.set_cons_zero, List.set_cons_succ, i64_w, i32_w]
            rfl
          refine one_ (i := 1) (N := some 27) #[true, true, true, true, true, true, true, false, false] rfl rfl (by kernel_rfl) (by decide) (fun K hK => ?_)
          refine goes_ Try.func25 (by kernel_rfl) rfl #[.pointer (some ⟨g, 0, none⟩)] (by rfl) rfl rfl (by (try simp only [List.map_toArray, List.map_cons, List.map_nil]); first | done | rfl) ?_
          refine (Reader_Int g A' c' (World.drew _) cur false Hb.out HC.out HRc.out HF.out H8.out HL.out n cur' bad' HP.out).mono ?_
          rintro e w1 ⟨rfl, A1, c1', q1', q2, q3, q4, q5⟩
          have q5 := KB.undrew1 q5
          have Hb1 := Aside0.mk q1'
          have HC1 := Aside0.mk q2
          have HR1 := Aside0.mk (q3 w1 (reads_keep HRc.out q5.1 HF.out))
          have HF1 := Aside0.mk (q4 g HF.out)
          have HB1 := Aside0.mk (below_keep HB.out HG.out q5)
          have hS1 := field_keep q5 HNE.out hHeld
          clear q1' q2 q3 q4 q5
          refine ⟨_, rfl, ?_⟩
          refine hK.out _ _ hS1 (fun hHeld => ?_)
          clear hK K
          refine norm_ (a' := ?_) ?_ ?_
          rotate_left
          · show Act.put _ (some 27) _ = _
            simp only [Act.put, List.setIfInBounds_toArray, List.set_cons_zero, List.set_cons_succ, i64_w, i32_w]
            rfl
          refine pure_ (i := 7) (N := some 33) (v := ?_) (a' := ?_) #[true, true, true, true, true, true, true, true, false] rfl rfl (by kernel_rfl) (fun _ _ _ h => h) (Or.inl ⟨by rfl, ?_⟩) ?_ ?_
          rotate_left
          · intro w'
            go_simp
            with_reducible rfl
          rotate_left
          · simp only [Act.put, List.setIfInBounds_toArray, List.set_cons_zero, List.set_cons_succ, i64_w, i32_w]
            rfl
          refine pure_ (i := 8) (N := some 7) (v := ?_) (a' := ?_) #[true, true, true, true, true, true, true, true, true] rfl rfl (by kernel_rfl) (fun _ _ _ h => h) (Or.inl ⟨by rfl, ?_⟩) ?_ ?_
          rotate_left
          · intro w'
            go_simp
            with_reducible rfl
          rotate_left
          · simp only [Act.put, List.setIfInBounds_toArray, List.set_cons_zero, List.set_cons_succ, i64_w, i32_w]
            rfl
          refine done_ (by kernel_rfl) ?_
          go_wp2
          go_ret
          exact ⟨by first | rfl | (simp [hs]; done), by first | exact HB1.out | exact pw_below_drewN HB1.out _⟩
        | true =>
          cases bad' with
          | true =>
            have hR : R = false := ht.symm.trans (takenF_bad (.inr (by rw [ht1])))
            subst hR
            clear ht ht1
            go_wp2
            refine start_ (n := 9) (S := fun w' => w'.cell? ⟨(ad.add (x.toNat * 5)).block, (ad.add (x.toNat * 5)).off + 1, none⟩ = some (.int .i64 y.f1)) (ds := []) #[false, false, false, false, false, false, false, false, false] (by kernel_rfl) rfl rfl hx1 (fun hHeld => ?_)
            refine pure_ (i := 0) (N := some 26) (v := ?_) (a' := ?_) #[true, false, false, false, false, false, false, false, false] rfl rfl (by kernel_rfl) (fun _ _ _ h => h) (Or.inl ⟨by rfl, ?_⟩) ?_ ?_
            rotate_left
            · intro w'
              go_simp
              with_reducible rfl
            rotate_left
            · simp only [Act.put, List.setIfInBounds_toArray, List.set_cons_zero, List.set_cons_succ, i64_w, i32_w]
              rfl
            refine pure_ (i := 2) (N := some 28) (v := ?_) (a' := ?_) #[true, false, true, false, false, false, false, false, false] rfl rfl (by kernel_rfl) (fun _ _ _ h => h) (Or.inl ⟨by rfl, ?_⟩) ?_ ?_
            rotate_left
            · intro w'
              go_simp
              with_reducible rfl
            rotate_left
            · simp only [Act.put, List.setIfInBounds_toArray, List.set_cons_zero, List.set_cons_succ, i64_w, i32_w]
              rfl
            refine pure_ (i := 3) (N := some 29) (v := ?_) (a' := ?_) #[true, false, true, true, false, false, false, false, false] rfl rfl (by kernel_rfl) (fun _ _ _ h => h) (Or.inl ⟨by rfl, ?_⟩) ?_ ?_
            rotate_left
            · intro w'
              go_simp
              with_reducible rfl
            rotate_left
            · simp only [Act.put, List.setIfInBounds_toArray, List.set_cons_zero, List.set_cons_succ, i64_w, i32_w]
              rfl
            refine pure_ (i := 4) (N := some 30) (v := ?_) (a' := ?_) #[true, false, true, true, true, false, false, false, false] rfl rfl (by kernel_rfl) (fun _ _ _ h => h) (Or.inl ⟨by rfl, ?_⟩) ?_ ?_
            rotate_left
            · intro w'
              go_simp
              with_reducible rfl
            rotate_left
            · simp only [Act.put, List.setIfInBounds_toArray, List.set_cons_zero, List.set_cons_succ, i64_w, i32_w]
              rfl
            refine pure_ (i := 5) (N := some 31) (v := ?_) (a' := ?_) #[true, false, true, true, true, true, false, false, false] rfl rfl (by kernel_rfl) (fun _ _ _ h => h) (Or.inl ⟨by rfl, ?_⟩) ?_ ?_
            rotate_left
            · intro w'
              go_simp
              with_reducible rfl
            rotate_left
            · simp only [Act.put, List.setIfInBounds_toArray, List.set_cons_zero, List.set_cons_succ, i64_w, i32_w]
              rfl
            refine take_ (i := 6) (N := some 32) (v := ?_) (a' := ?_) #[true, false, true, true, true, true, true, false, false] rfl rfl (by kernel_rfl) (fun _ _ _ h => h) (Or.inl ⟨by rfl, ?_⟩) hHeld ?_ ?_
            rotate_left
            · intro w' s0
              skip
              go_simp
              with_reducible rfl
            rotate_left
            · simp only [Act.put, List.setIfInBounds_toArray, List.set_cons_zero, List.set_cons_succ, i64_w, i32_w]
              rfl
            refine one_ (i := 1) (N := some 27) #[true, true, true, true, true, true, true, false, false] rfl rfl (by kernel_rfl) (by decide) (fun K hK => ?_)
            refine goes_ Try.func25 (by kernel_rfl) rfl #[.pointer (some ⟨g, 0, none⟩)] (by rfl) rfl rfl (by (try simp only [List.map_toArray, List.map_cons, List.map_nil]); first | done | rfl) ?_
            refine (Reader_Int g A' c' (World.drew _) cur false Hb.out HC.out HRc.out HF.out H8.out HL.out n cur' true HP.out).mono ?_
            rintro e w1 ⟨rfl, A1, c1', q1', q2, q3, q4, q5⟩
            have q5 := KB.undrew1 q5
            have Hb1 := Aside0.mk q1'
            have HC1 := Aside0.mk q2
            have HR1 := Aside0.mk (q3 w1 (reads_keep HRc.out q5.1 HF.out))
            have HF1 := Aside0.mk (q4 g HF.out)
            have HB1 := Aside0.mk (below_keep HB.out HG.out q5)
            have hS1 := field_keep q5 HNE.out hHeld
            clear q1' q2 q3 q4 q5
            refine ⟨_, rfl, ?_⟩
            refine hK.out _ _ hS1 (fun hHeld => ?_)
            clear hK K
            refine norm_ (a' := ?_) ?_ ?_
            rotate_left
            · show Act.put _ (some 27) _ = _
              simp only [Act.put, List.setIfInBounds_toArray, List.set_cons_zero, List.set_cons_succ, i64_w, i32_w]
              rfl
            refine pure_ (i := 7) (N := some 33) (v := ?_) (a' := ?_) #[true, true, true, true, true, true, true, true, false] rfl rfl (by kernel_rfl) (fun _ _ _ h => h) (Or.inl ⟨by rfl, ?_⟩) ?_ ?_
            rotate_left
            · intro w'
              go_simp
              with_reducible rfl
            rotate_left
            · simp only [Act.put, List.setIfInBounds_toArray, List.set_cons_zero, List.set_cons_succ, i64_w, i32_w]
              rfl
            refine pure_ (i := 8) (N := some 7) (v := ?_) (a' := ?_) #[true, true, true, true, true, true, true, true, true] rfl rfl (by kernel_rfl) (fun _ _ _ h => h) (Or.inl ⟨by rfl, ?_⟩) ?_ ?_
            rotate_left
            · intro w'
              go_simp
              with_reducible rfl
            rotate_left
            · simp only [Act.put, List.setIfInBounds_toArray, List.set_cons_zero, List.set_cons_succ, i64_w, i32_w]
              rfl
            refine done_ (by kernel_rfl) ?_
            go_wp2_with (first | (go_at_call 30; refine (Reader_Err g A1 c1' w1 cur' true Hb1.out).mono ?_; rintro e w3 ⟨rfl, ⟨nd, rfl⟩⟩))
            go_ret
            exact ⟨by first | rfl | (simp [hs]; done), by first | exact HB1.out | exact pw_below_drewN HB1.out _⟩
          | false =>
            have HT1 : Aside0 (takenF cur' (l.drop (wrap64 (x + 1)).toNat) = R) := ⟨by rw [hw, ← ht, takenF_go (by rw [ht1]) (by rw [ht1]), ht1]⟩
            clear ht ht1
            go_wp2
            refine start_ (n := 9) (S := fun w' => w'.cell? ⟨(ad.add (x.toNat * 5)).block, (ad.add (x.toNat * 5)).off + 1, none⟩ = some (.int .i64 y.f1)) (ds := []) #[false, false, false, false, false, false, false, false, false] (by kernel_rfl) rfl rfl hx1 (fun hHeld => ?_)
            refine pure_ (i := 0) (N := some 26) (v := ?_) (a' := ?_) #[true, false, false, false, false, false, false, false, false] rfl rfl (by kernel_rfl) (fun _ _ _ h => h) (Or.inl ⟨by rfl, ?_⟩) ?_ ?_
            rotate_left
            · intro w'
              go_simp
              with_reducible rfl
            rotate_left
            · simp only [Act.put, List.setIfInBounds_toArray, List.set_cons_zero, List.set_cons_succ, i64_w, i32_w]
              rfl
            refine pure_ (i := 2) (N := some 28) (v := ?_) (a' := ?_) #[true, false, true, false, false, false, false, false, false] rfl rfl (by kernel_rfl) (fun _ _ _ h => h) (Or.inl ⟨by rfl, ?_⟩) ?_ ?_
            rotate_left
            · intro w'
              go_simp
              with_reducible rfl
            rotate_left
            · simp only [Act.put, List.setIfInBounds_toArray, List.set_cons_zero, List.set_cons_succ, i64_w, i32_w]
              rfl
            refine pure_ (i := 3) (N := some 29) (v := ?_) (a' := ?_) #[true, false, true, true, false, false, false, false, false] rfl rfl (by kernel_rfl) (fun _ _ _ h => h) (Or.inl ⟨by rfl, ?_⟩) ?_ ?_
            rotate_left
            · intro w'
              go_simp
              with_reducible rfl
            rotate_left
            · simp only [Act.put, List.setIfInBounds_toArray, List.set_cons_zero, List.set_cons_succ, i64_w, i32_w]
              rfl
            refine pure_ (i := 4) (N := some 30) (v := ?_) (a' := ?_) #[true, false, true, true, true, false, false, false, false] rfl rfl (by kernel_rfl) (fun _ _ _ h => h) (Or.inl ⟨by rfl, ?_⟩) ?_ ?_
            rotate_left
            · intro w'
              go_simp
              with_reducible rfl
            rotate_left
            · simp only [Act.put, List.setIfInBounds_toArray, List.set_cons_zero, List.set_cons_succ, i64_w, i32_w]
              rfl
            refine pure_ (i := 5) (N := some 31) (v := ?_) (a' := ?_) #[true, false, true, true, true, true, false, false, false] rfl rfl (by kernel_rfl) (fun _ _ _ h => h) (Or.inl ⟨by rfl, ?_⟩) ?_ ?_
            rotate_left
            · intro w'
              go_simp
              with_reducible rfl
            rotate_left
            · simp only [Act.put, List.setIfInBounds_toArray, List.set_cons_zero, List.set_cons_succ, i64_w, i32_w]
              rfl
            refine take_ (i := 6) (N := some 32) (v := ?_) (a' := ?_) #[true, false, true, true, true, true, true, false, false] rfl rfl (by kernel_rfl) (fun _ _ _ h => h) (Or.inl ⟨by rfl, ?_⟩) hHeld ?_ ?_
            rotate_left
            · intro w' s0
              skip
              go_simp
              with_reducible rfl
            rotate_left
            · simp only [Act.put, List.setIfInBounds_toArray, List.set_cons_zero, List.set_cons_succ, i64_w, i32_w]
              rfl
            refine one_ (i := 1) (N := some 27) #[true, true, true, true, true, true, true, false, false] rfl rfl (by kernel_rfl) (by decide) (fun K hK => ?_)
            refine goes_ Try.func25 (by kernel_rfl) rfl #[.pointer (some ⟨g, 0, none⟩)] (by rfl) rfl rfl (by (try simp only [List.map_toArray, List.map_cons, List.map_nil]); first | done | rfl) ?_
            refine (Reader_Int g A' c' (World.drew _) cur false Hb.out HC.out HRc.out HF.out H8.out HL.out n cur' false HP.out).mono ?_
            rintro e w1 ⟨rfl, A1, c1', q1', q2, q3, q4, q5⟩
            have q5 := KB.undrew1 q5
            have Hb1 := Aside0.mk q1'
            have HC1 := Aside0.mk q2
            have HR1 := Aside0.mk (q3 w1 (reads_keep HRc.out q5.1 HF.out))
            have HF1 := Aside0.mk (q4 g HF.out)
            have HB1 := Aside0.mk (below_keep HB.out HG.out q5)
            have hS1 := field_keep q5 HNE.out hHeld
            clear q1' q2 q3 q4 q5
            refine ⟨_, rfl, ?_⟩
            refine hK.out _ _ hS1 (fun hHeld => ?_)
            clear hK K
            refine norm_ (a' := ?_) ?_ ?_
            rotate_left
            · show Act.put _ (some 27) _ = _
              simp only [Act.put, List.setIfInBounds_toArray, List.set_cons_zero, List.set_cons_succ, i64_w, i32_w]
              rfl
            refine pure_ (i := 7) (N := some 33) (v := ?_) (a' := ?_) #[true, true, true, true, true, true, true, true, false] rfl rfl (by kernel_rfl) (fun _ _ _ h => h) (Or.inl ⟨by rfl, ?_⟩) ?_ ?_
            rotate_left
            · intro w'
              go_simp
              with_reducible rfl
            rotate_left
            · simp only [Act.put, List.setIfInBounds_toArray, List.set_cons_zero, List.set_cons_succ, i64_w, i32_w]
              rfl
            refine pure_ (i := 8) (N := some 7) (v := ?_) (a' := ?_) #[true, true, true, true, true, true, true, true, true] rfl rfl (by kernel_rfl) (fun _ _ _ h => h) (Or.inl ⟨by rfl, ?_⟩) ?_ ?_
            rotate_left
            · intro w'
              go_simp
              with_reducible rfl
            rotate_left
            · simp only [Act.put, List.setIfInBounds_toArray, List.set_cons_zero, List.set_cons_succ, i64_w, i32_w]
              rfl
            refine done_ (by kernel_rfl) ?_
            go_wp2_with (first | (go_at_call 30; refine (Reader_Err g A1 c1' w1 cur' false Hb1.out).mono ?_; rintro e w3 ⟨rfl, ⟨nd, rfl⟩⟩))
            go_roundg (gk - 1)
            case measure => have := HKK.out; omega
            case rel => exact ⟨wrap64 (x + 1), cur', A1, c1', rfl, ⟨by rw [hw]; have := HKK.out; omega⟩, Hb1, HC1, HR1, HF1, H8', HL', HT1, ⟨pw_below_drewN HB1.out _⟩⟩
      · obtain ⟨⟨n, cur', bad'⟩, hp⟩ : ∃ r, rBool cur false = r := ⟨_, rfl⟩
        have ht1 : take1 y cur = ((n == y.f2), cur', bad') := by unfold take1; rw [if_neg (by omega), if_pos h, hp]
        have hsub := sub_bytes (rBool_sub _ _ _ _ hp)
        have H8' := Aside0.mk (hsub.1 H8.out)
        have HL' := Aside0.mk (Nat.lt_of_le_of_lt hsub.2 HL.out)
        have HP := Aside0.mk hp
        clear hsub hp
        have d0 : (y.f0 == 0) = false := beq_eq_false_iff_ne.mpr (by omega)
        have d1 : (y.f0 == 1) = true := beq_iff_eq.mpr (by omega)
        clear h
        obtain ⟨same, hs⟩ : ∃ b, (n == y.f2) = b := ⟨_, rfl⟩
        rw [hs] at ht1
        cases same with
        | false =>
          have hR : R = false := ht.symm.trans (takenF_bad (.inl (by rw [ht1])))
          subst hR
          clear ht ht1
          go_wp2
          refine start_ (n := 9) (S := fun w' => w'.cell? ⟨(ad.add (x.toNat * 5)).block, (ad.add (x.toNat * 5)).off + 2, none⟩ = some (.bool y.f2)) (ds := []) #[false, false, false, false, false, false, false, false, false] (by kernel_rfl) rfl rfl hx2 (fun hHeld => ?_)
          refine pure_ (i := 0) (N := some 36) (v := ?_) (a' := ?_) #[true, false, false, false, false, false, false, false, false] rfl rfl (by kernel_rfl) (fun _ _ _ h => h) (Or.inl ⟨by rfl, ?_⟩) ?_ ?_
          rotate_left
          · intro w'
            go_simp
            with_reducible rfl
          rotate_left
          · simp only [Act.put, List.setIfInBounds_toArray, List.set_cons_zero, List.set_cons_succ, i64_w, i32_w]
            rfl
          refine pure_ (i := 2) (N := some 38) (v := ?_) (a' := ?_) #[true, false, true, false, false, false, false, false, false] rfl rfl (by kernel_rfl) (fun _ _ _ h => h) (Or.inl ⟨by rfl, ?_⟩) ?_ ?_
          rotate_left
          · intro w'
            go_simp
            with_reducible rfl
          rotate_left
          · simp only [Act.put, List.setIfInBounds_toArray, List.set_cons_zero, List.set_cons_succ, i64_w, i32_w]
            rfl
          refine pure_ (i := 3) (N := some 39) (v := ?_) (a' := ?_) #[true, false, true, true, false, false, false, false, false] rfl rfl (by kernel_rfl) (fun _ _ _ h => h) (Or.inl ⟨by rfl, ?_⟩) ?_ ?_
          rotate_left
          · intro w'
            go_simp
            with_reducible rfl
          rotate_left
          · simp only [Act.put, List.setIfInBounds_toArray, List.set_cons_zero, List.set_cons_succ, i64_w, i32_w]
            rfl
          refine pure_ (i := 4) (N := some 40) (v := ?_) (a' := ?_) #[true, false, true, true, true, false, false, false, false] rfl rfl (by kernel_rfl) (fun _ _ _ h => h) (Or.inl ⟨by rfl, ?_⟩) ?_ ?_
          rotate_left
          · intro w'
            go_simp
            with_reducible rfl
          rotate_left
          · simp only [Act.put, List.setIfInBounds_toArray, List.set_cons_zero, List.set_cons_succ, i64_w, i32_w]
            rfl
          refine pure_ (i := 5) (N := some 41) (v := ?_) (a' := ?_) #[true, false, true, true, true, true, false, false, false] rfl rfl (by kernel_rfl) (fun _ _ _ h => h) (Or.inl ⟨by rfl, ?_⟩) ?_ ?_
          rotate_left
          · intro w'
            go_simp
            with_reducible rfl
          rotate_left
          · simp only [Act.put, List.setIfInBounds_toArray, List.set_cons_zero, List.set_cons_succ, i64_w, i32_w]
            rfl
          refine take_ (i := 6) (N := some 42) (v := ?_) (a' := ?_) #[true, false, true, true, true, true, true, false, false] rfl rfl (by kernel_rfl) (fun _ _ _ h => h) (Or.inl ⟨by rfl, ?_⟩) hHeld ?_ ?_
          rotate_left
          · intro w' s0
            skip
            go_simp
            with_reducible rfl
          rotate_left
          · simp only [Act.put, List.setIfInBounds_toArray, List.set_cons_zero, List.set_cons_succ, i64_w, i32_w]
            rfl
          refine one_ (i := 1) (N := some 37) #[true, true, true, true, true, true, true, false, false] rfl rfl (by kernel_rfl) (by decide) (fun K hK => ?_)
          refine goes_ Try.func27 (by kernel_rfl) rfl #[.pointer (some ⟨g, 0, none⟩)] (by rfl) rfl rfl (by (try simp only [List.map_toArray, List.map_cons, List.map_nil]); first | done | rfl) ?_
          refine (Reader_Bool g A' c' (World.drew _) cur false Hb.out HC.out HRc.out HF.out H8.out HL.out n cur' bad' HP.out).mono ?_
          rintro e w1 ⟨rfl, A1, c1', q1', q2, q3, q4, q5⟩
          have q5 := KB.undrew1 q5
          have Hb1 := Aside0.mk q1'
          have HC1 := Aside0.mk q2
          have HR1 := Aside0.mk (q3 w1 (reads_keep HRc.out q5.1 HF.out))
          have HF1 := Aside0.mk (q4 g HF.out)
          have HB1 := Aside0.mk (below_keep HB.out HG.out q5)
          have hS1 := field_keep q5 HNE.out hHeld
          clear q1' q2 q3 q4 q5
          refine ⟨_, rfl, ?_⟩
          refine hK.out _ _ hS1 (fun hHeld => ?_)
          clear hK K
          refine norm_ (a' := ?_) ?_ ?_
          rotate_left
          · show Act.put _ (some 37) _ = _
            simp only [Act.put, List.setIfInBounds_toArray, List.set_cons_zero, List.set_cons_succ, i64_w, i32_w]
            rfl
          refine pure_ (i := 7) (N := some 43) (v := ?_) (a' := ?_) #[true, true, true, true, true, true, true, true, false] rfl rfl (by kernel_rfl) (fun _ _ _ h => h) (Or.inl ⟨by rfl, ?_⟩) ?_ ?_
          rotate_left
          · intro w'
            go_simp
            with_reducible rfl
          rotate_left
          · simp only [Act.put, List.setIfInBounds_toArray, List.set_cons_zero, List.set_cons_succ, i64_w, i32_w]
            rfl
          refine pure_ (i := 8) (N := some 7) (v := ?_) (a' := ?_) #[true, true, true, true, true, true, true, true, true] rfl rfl (by kernel_rfl) (fun _ _ _ h => h) (Or.inl ⟨by rfl, ?_⟩) ?_ ?_
          rotate_left
          · intro w'
            go_simp
            with_reducible rfl
          rotate_left
          · simp only [Act.put, List.setIfInBounds_toArray, List.set_cons_zero, List.set_cons_succ, i64_w, i32_w]
            rfl
          refine done_ (by kernel_rfl) ?_
          go_wp2
          go_ret
          exact ⟨by first | rfl | (simp [hs]; done), by first | exact HB1.out | exact pw_below_drewN HB1.out _⟩
        | true =>
          cases bad' with
          | true =>
            have hR : R = false := ht.symm.trans (takenF_bad (.inr (by rw [ht1])))
            subst hR
            clear ht ht1
            go_wp2
            refine start_ (n := 9) (S := fun w' => w'.cell? ⟨(ad.add (x.toNat * 5)).block, (ad.add (x.toNat * 5)).off + 2, none⟩ = some (.bool y.f2)) (ds := []) #[false, false, false, false, false, false, false, false, false] (by kernel_rfl) rfl rfl hx2 (fun hHeld => ?_)
            refine pure_ (i := 0) (N := some 36) (v := ?_) (a' := ?_) #[true, false, false, false, false, false, false, false, false] rfl rfl (by kernel_rfl) (fun _ _ _ h => h) (Or.inl ⟨by rfl, ?_⟩) ?_ ?_
            rotate_left
            · intro w'
              go_simp
              with_reducible rfl
            rotate_left
            · simp only [Act.put, List.setIfInBounds_toArray, List.set_cons_zero, List.set_cons_succ, i64_w, i32_w]
              rfl
            refine pure_ (i := 2) (N := some 38) (v := ?_) (a' := ?_) #[true, false, true, false, false, false, false, false, false] rfl rfl (by kernel_rfl) (fun _ _ _ h => h) (Or.inl ⟨by rfl, ?_⟩) ?_ ?_
            rotate_left
            · intro w'
              go_simp
              with_reducible rfl
            rotate_left
            · simp only [Act.put, List.setIfInBounds_toArray, List.set_cons_zero, List.set_cons_succ, i64_w, i32_w]
              rfl
            refine pure_ (i := 3) (N := some 39) (v := ?_) (a' := ?_) #[true, false, true, true, false, false, false, false, false] rfl rfl (by kernel_rfl) (fun _ _ _ h => h) (Or.inl ⟨by rfl, ?_⟩) ?_ ?_
            rotate_left
            · intro w'
              go_simp
              with_reducible rfl
            rotate_left
            · simp only [Act.put, List.setIfInBounds_toArray, List.set_cons_zero, List.set_cons_succ, i64_w, i32_w]
              rfl
            refine pure_ (i := 4) (N := some 40) (v := ?_) (a' := ?_) #[true, false, true, true, true, false, false, false, false] rfl rfl (by kernel_rfl) (fun _ _ _ h => h) (Or.inl ⟨by rfl, ?_⟩) ?_ ?_
            rotate_left
            · intro w'
              go_simp
              with_reducible rfl
            rotate_left
            · simp only [Act.put, List.setIfInBounds_toArray, List.set_cons_zero, List.set_cons_succ, i64_w, i32_w]
              rfl
            refine pure_ (i := 5) (N := some 41) (v := ?_) (a' := ?_) #[true, false, true, true, true, true, false, false, false] rfl rfl (by kernel_rfl) (fun _ _ _ h => h) (Or.inl ⟨by rfl, ?_⟩) ?_ ?_
            rotate_left
            · intro w'
              go_simp
              with_reducible rfl
            rotate_left
            · simp only [Act.put, List.setIfInBounds_toArray, List.set_cons_zero, List.set_cons_succ, i64_w, i32_w]
              rfl
            refine take_ (i := 6) (N := some 42) (v := ?_) (a' := ?_) #[true, false, true, true, true, true, true, false, false] rfl rfl (by kernel_rfl) (fun _ _ _ h => h) (Or.inl ⟨by rfl, ?_⟩) hHeld ?_ ?_
            rotate_left
            · intro w' s0
              skip
              go_simp
              with_reducible rfl
            rotate_left
            · simp only [Act.put, List.setIfInBounds_toArray, List.set_cons_zero, List.set_cons_succ, i64_w, i32_w]
              rfl
            refine one_ (i := 1) (N := some 37) #[true, true, true, true, true, true, true, false, false] rfl rfl (by kernel_rfl) (by decide) (fun K hK => ?_)
            refine goes_ Try.func27 (by kernel_rfl) rfl #[.pointer (some ⟨g, 0, none⟩)] (by rfl) rfl rfl (by (try simp only [List.map_toArray, List.map_cons, List.map_nil]); first | done | rfl) ?_
            refine (Reader_Bool g A' c' (World.drew _) cur false Hb.out HC.out HRc.out HF.out H8.out HL.out n cur' true HP.out).mono ?_
            rintro e w1 ⟨rfl, A1, c1', q1', q2, q3, q4, q5⟩
            have q5 := KB.undrew1 q5
            have Hb1 := Aside0.mk q1'
            have HC1 := Aside0.mk q2
            have HR1 := Aside0.mk (q3 w1 (reads_keep HRc.out q5.1 HF.out))
            have HF1 := Aside0.mk (q4 g HF.out)
            have HB1 := Aside0.mk (below_keep HB.out HG.out q5)
            have hS1 := field_keep q5 HNE.out hHeld
            clear q1' q2 q3 q4 q5
            refine ⟨_, rfl, ?_⟩
            refine hK.out _ _ hS1 (fun hHeld => ?_)
            clear hK K
            refine norm_ (a' := ?_) ?_ ?_
            rotate_left
            · show Act.put _ (some 37) _ = _
              simp only [Act.put, List.setIfInBounds_toArray, List.set_cons_zero, List.set_cons_succ, i64_w, i32_w]
              rfl
            refine pure_ (i := 7) (N := some 43) (v := ?_) (a' := ?_) #[true, true, true, true, true, true, true, true, false] rfl rfl (by kernel_rfl) (fun _ _ _ h => h) (Or.inl ⟨by rfl, ?_⟩) ?_ ?_
            rotate_left
            · intro w'
              go_simp
              with_reducible rfl
            rotate_left
            · simp only [Act.put, List.setIfInBounds_toArray, List.set_cons_zero, List.set_cons_succ, i64_w, i32_w]
              rfl
            refine pure_ (i := 8) (N := some 7) (v := ?_) (a' := ?_) #[true, true, true, true, true, true, true, true, true] rfl rfl (by kernel_rfl) (fun _ _ _ h => h) (Or.inl ⟨by rfl, ?_⟩) ?_ ?_
            rotate_left
            · intro w'
              go_simp
              with_reducible rfl
            rotate_left
            · simp only [Act.put, List.setIfInBounds_toArray, List.set_cons_zero, List.set_cons_succ, i64_w, i32_w]
              rfl
            refine done_ (by kernel_rfl) ?_
            go_wp2_with (first | (go_at_call 30; refine (Reader_Err g A1 c1' w1 cur' true Hb1.out).mono ?_; rintro e w3 ⟨rfl, ⟨nd, rfl⟩⟩))
            go_ret
            exact ⟨by first | rfl | (simp [hs]; done), by first | exact HB1.out | exact pw_below_drewN HB1.out _⟩
          | false =>
            have HT1 : Aside0 (takenF cur' (l.drop (wrap64 (x + 1)).toNat) = R) := ⟨by rw [hw, ← ht, takenF_go (by rw [ht1]) (by rw [ht1]), ht1]⟩
            clear ht ht1
            go_wp2
            refine start_ (n := 9) (S := fun w' => w'.cell? ⟨(ad.add (x.toNat * 5)).block, (ad.add (x.toNat * 5)).off + 2, none⟩ = some (.bool y.f2)) (ds := []) #[false, false, false, false, false, false, false, false, false] (by kernel_rfl) rfl rfl hx2 (fun hHeld => ?_)
            refine pure_ (i := 0) (N := some 36) (v := ?_) (a' := ?_) #[true, false, false, false, false, false, false, false, false] rfl rfl (by kernel_rfl) (fun _ _ _ h => h) (Or.inl ⟨by rfl, ?_⟩) ?_ ?_
            rotate_left
            · intro w'
              go_simp
              with_reducible rfl
            rotate_left
            · simp only [Act.put, List.setIfInBounds_toArray, List.set_cons_zero, List.set_cons_succ, i64_w, i32_w]
              rfl
            refine pure_ (i := 2) (N := some 38) (v := ?_) (a' := ?_) #[true, false, true, false, false, false, false, false, false] rfl rfl (by kernel_rfl) (fun _ _ _ h => h) (Or.inl ⟨by rfl, ?_⟩) ?_ ?_
            rotate_left
            · intro w'
              go_simp
              with_reducible rfl
            rotate_left
            · simp only [Act.put, List.setIfInBounds_toArray, List.set_cons_zero, List.set_cons_succ, i64_w, i32_w]
              rfl
            refine pure_ (i := 3) (N := some 39) (v := ?_) (a' := ?_) #[true, false, true, true, false, false, false, false, false] rfl rfl (by kernel_rfl) (fun _ _ _ h => h) (Or.inl ⟨by rfl, ?_⟩) ?_ ?_
            rotate_left
            · intro w'
              go_simp
              with_reducible rfl
            rotate_left
            · simp only [Act.put, List.setIfInBounds_toArray, List.set_cons_zero, List.set_cons_succ, i64_w, i32_w]
              rfl
            refine pure_ (i := 4) (N := some 40) (v := ?_) (a' := ?_) #[true, false, true, true, true, false, false, false, false] rfl rfl (by kernel_rfl) (fun _ _ _ h => h) (Or.inl ⟨by rfl, ?_⟩) ?_ ?_
            rotate_left
            · intro w'
              go_simp
              with_reducible rfl
            rotate_left
            · simp only [Act.put, List.setIfInBounds_toArray, List.set_cons_zero, List.set_cons_succ, i64_w, i32_w]
              rfl
            refine pure_ (i := 5) (N := some 41) (v := ?_) (a' := ?_) #[true, false, true, true, true, true, false, false, false] rfl rfl (by kernel_rfl) (fun _ _ _ h => h) (Or.inl ⟨by rfl, ?_⟩) ?_ ?_
            rotate_left
            · intro w'
              go_simp
              with_reducible rfl
            rotate_left
            · simp only [Act.put, List.setIfInBounds_toArray, List.set_cons_zero, List.set_cons_succ, i64_w, i32_w]
              rfl
            refine take_ (i := 6) (N := some 42) (v := ?_) (a' := ?_) #[true, false, true, true, true, true, true, false, false] rfl rfl (by kernel_rfl) (fun _ _ _ h => h) (Or.inl ⟨by rfl, ?_⟩) hHeld ?_ ?_
            rotate_left
            · intro w' s0
              skip
              go_simp
              with_reducible rfl
            rotate_left
            · simp only [Act.put, List.setIfInBounds_toArray, List.set_cons_zero, List.set_cons_succ, i64_w, i32_w]
              rfl
            refine one_ (i := 1) (N := some 37) #[true, true, true, true, true, true, true, false, false] rfl rfl (by kernel_rfl) (by decide) (fun K hK => ?_)
            refine goes_ Try.func27 (by kernel_rfl) rfl #[.pointer (some ⟨g, 0, none⟩)] (by rfl) rfl rfl (by (try simp only [List.map_toArray, List.map_cons, List.map_nil]); first | done | rfl) ?_
            refine (Reader_Bool g A' c' (World.drew _) cur false Hb.out HC.out HRc.out HF.out H8.out HL.out n cur' false HP.out).mono ?_
            rintro e w1 ⟨rfl, A1, c1', q1', q2, q3, q4, q5⟩
            have q5 := KB.undrew1 q5
            have Hb1 := Aside0.mk q1'
            have HC1 := Aside0.mk q2
            have HR1 := Aside0.mk (q3 w1 (reads_keep HRc.out q5.1 HF.out))
            have HF1 := Aside0.mk (q4 g HF.out)
            have HB1 := Aside0.mk (below_keep HB.out HG.out q5)
            have hS1 := field_keep q5 HNE.out hHeld
            clear q1' q2 q3 q4 q5
            refine ⟨_, rfl, ?_⟩
            refine hK.out _ _ hS1 (fun hHeld => ?_)
            clear hK K
            refine norm_ (a' := ?_) ?_ ?_
            rotate_left
            · show Act.put _ (some 37) _ = _
              simp only [Act.put, List.setIfInBounds_toArray, List.set_cons_zero, List.set_cons_succ, i64_w, i32_w]
              rfl
            refine pure_ (i := 7) (N := some 43) (v := ?_) (a' := ?_) #[true, true, true, true, true, true, true, true, false] rfl rfl (by kernel_rfl) (fun _ _ _ h => h) (Or.inl ⟨by rfl, ?_⟩) ?_ ?_
            rotate_left
            · intro w'
              go_simp
              with_reducible rfl
            rotate_left
            · simp only [Act.put, List.setIfInBounds_toArray, List.set_cons_zero, List.set_cons_succ, i64_w, i32_w]
              rfl
            refine pure_ (i := 8) (N := some 7) (v := ?_) (a' := ?_) #[true, true, true, true, true, true, true, true, true] rfl rfl (by kernel_rfl) (fun _ _ _ h => h) (Or.inl ⟨by rfl, ?_⟩) ?_ ?_
            rotate_left
            · intro w'
              go_simp
              with_reducible rfl
            rotate_left
            · simp only [Act.put, List.setIfInBounds_toArray, List.set_cons_zero, List.set_cons_succ, i64_w, i32_w]
              rfl
            refine done_ (by kernel_rfl) ?_
            go_wp2_with (first | (go_at_call 30; refine (Reader_Err g A1 c1' w1 cur' false Hb1.out).mono ?_; rintro e w3 ⟨rfl, ⟨nd, rfl⟩⟩))
            go_roundg (gk - 1)
            case measure => have := HKK.out; omega
            case rel => exact ⟨wrap64 (x + 1), cur', A1, c1', rfl, ⟨by rw [hw]; have := HKK.out; omega⟩, Hb1, HC1, HR1, HF1, H8', HL', HT1, ⟨pw_below_drewN HB1.out _⟩⟩
      · obtain ⟨⟨n, cur', bad'⟩, hp⟩ : ∃ r, rText (y.f3.size : Int) cur false = r := ⟨_, rfl⟩
        have ht1 : take1 y cur = (((strOfNums n).toList == y.f3.toList), cur', bad') := by unfold take1; rw [if_neg (by omega), if_neg (by omega), if_pos h, hp]
        have hsub := sub_bytes (rText_sub _ _ _ _ _ hp)
        have H8' := Aside0.mk (hsub.1 H8.out)
        have HL' := Aside0.mk (Nat.lt_of_le_of_lt hsub.2 HL.out)
        have HP := Aside0.mk hp
        clear hsub hp
        have d0 : (y.f0 == 0) = false := beq_eq_false_iff_ne.mpr (by omega)
        have d1 : (y.f0 == 1) = false := beq_eq_false_iff_ne.mpr (by omega)
        have d2 : (y.f0 == 2) = true := beq_iff_eq.mpr (by omega)
        clear h
        obtain ⟨same, hs⟩ : ∃ b, ((strOfNums n).toList == y.f3.toList) = b := ⟨_, rfl⟩
        rw [hs] at ht1
        cases same with
        | false =>
          have hR : R = false := ht.symm.trans (takenF_bad (.inl (by rw [ht1])))
          subst hR
          clear ht ht1
          go_wp2
          refine start_ (n := 15) (S := fun w' => w'.cell? ⟨(ad.add (x.toNat * 5)).block, (ad.add (x.toNat * 5)).off + 3, none⟩ = some (.string y.f3)) (ds := []) #[false, false, false, false, false, false, false, false, false, false, false, false, false, false, false] (by kernel_rfl) rfl rfl hx3 (fun hHeld => ?_)
          refine pure_ (i := 0) (N := some 46) (v := ?_) (a' := ?_) #[true, false, false, false, false, false, false, false, false, false, false, false, false, false, false] rfl rfl (by kernel_rfl) (fun _ _ _ h => h) (Or.inl ⟨by rfl, ?_⟩) ?_ ?_
          rotate_left
          · intro w'
            go_simp
            with_reducible rfl
          rotate_left
          · simp only [Act.put, List.setIfInBounds_toArray, List.set_cons_zero, List.set_cons_succ, i64_w, i32_w]
            rfl
          refine pure_ (i := 1) (N := some 47) (v := ?_) (a' := ?_) #[true, true, false, false, false, false, false, false, false, false, false, false, false, false, false] rfl rfl (by kernel_rfl) (fun _ _ _ h => h) (Or.inl ⟨by rfl, ?_⟩) ?_ ?_
          rotate_left
          · intro w'
            go_simp
            with_reducible rfl
          rotate_left
          · simp only [Act.put, List.setIfInBounds_toArray, List.set_cons_zero, List.set_cons_succ, i64_w, i32_w]
            rfl
          refine pure_ (i := 2) (N := some 48) (v := ?_) (a' := ?_) #[true, true, true, false, false, false, false, false, false, false, false, false, false, false, false] rfl rfl (by kernel_rfl) (fun _ _ _ h => h) (Or.inl ⟨by rfl, ?_⟩) ?_ ?_
          rotate_left
          · intro w'
            go_simp
            with_reducible rfl
          rotate_left
          · simp only [Act.put, List.setIfInBounds_toArray, List.set_cons_zero, List.set_cons_succ, i64_w, i32_w]
            rfl
          refine pure_ (i := 3) (N := some 49) (v := ?_) (a' := ?_) #[true, true, true, true, false, false, false, false, false, false, false, false, false, false, false] rfl rfl (by kernel_rfl) (fun _ _ _ h => h) (Or.inl ⟨by rfl, ?_⟩) ?_ ?_
          rotate_left
          · intro w'
            go_simp
            with_reducible rfl
          rotate_left
          · simp only [Act.put, List.setIfInBounds_toArray, List.set_cons_zero, List.set_cons_succ, i64_w, i32_w]
            rfl
          refine pure_ (i := 4) (N := some 50) (v := ?_) (a' := ?_) #[true, true, true, true, true, false, false, false, false, false, false, false, false, false, false] rfl rfl (by kernel_rfl) (fun _ _ _ h => h) (Or.inl ⟨by rfl, ?_⟩) ?_ ?_
          rotate_left
          · intro w'
            go_simp
            with_reducible rfl
          rotate_left
          · simp only [Act.put, List.setIfInBounds_toArray, List.set_cons_zero, List.set_cons_succ, i64_w, i32_w]
            rfl
          refine take_ (i := 5) (N := some 51) (v := ?_) (a' := ?_) #[true, true, true, true, true, true, false, false, false, false, false, false, false, false, false] rfl rfl (by kernel_rfl) (fun _ _ _ h => h) (Or.inl ⟨by rfl, ?_⟩) hHeld ?_ ?_
          rotate_left
          · intro w' s0
            skip
            go_simp
            with_reducible rfl
          rotate_left
          · simp only [Act.put, List.setIfInBounds_toArray, List.set_cons_zero, List.set_cons_succ, i64_w, i32_w]
            rfl
          refine pure_ (i := 6) (N := some 52) (v := ?_) (a' := ?_) #[true, true, true, true, true, true, true, false, false, false, false, false, false, false, false] rfl rfl (by kernel_rfl) (fun _ _ _ h => h) (Or.inl ⟨by rfl, ?_⟩) ?_ ?_
          rotate_left
          · intro w'
            go_simp
            with_reducible rfl
          rotate_left
          · simp only [Act.put, List.setIfInBounds_toArray, List.set_cons_zero, List.set_cons_succ, i64_w, i32_w]
            rfl
          refine pure_ (i := 8) (N := some 54) (v := ?_) (a' := ?_) #[true, true, true, true, true, true, true, false, true, false, false, false, false, false, false] rfl rfl (by kernel_rfl) (fun _ _ _ h => h) (Or.inl ⟨by rfl, ?_⟩) ?_ ?_
          rotate_left
          · intro w'
            go_simp
            with_reducible rfl
          rotate_left
          · simp only [Act.put, List.setIfInBounds_toArray, List.set_cons_zero, List.set_cons_succ, i64_w, i32_w]
            rfl
          refine pure_ (i := 9) (N := some 55) (v := ?_) (a' := ?_) #[true, true, true, true, true, true, true, false, true, true, false, false, false, false, false] rfl rfl (by kernel_rfl) (fun _ _ _ h => h) (Or.inl ⟨by rfl, ?_⟩) ?_ ?_
          rotate_left
          · intro w'
            go_simp
            with_reducible rfl
          rotate_left
          · simp only [Act.put, List.setIfInBounds_toArray, List.set_cons_zero, List.set_cons_succ, i64_w, i32_w]
            rfl
          refine pure_ (i := 10) (N := some 56) (v := ?_) (a' := ?_) #[true, true, true, true, true, true, true, false, true, true, true, false, false, false, false] rfl rfl (by kernel_rfl) (fun _ _ _ h => h) (Or.inl ⟨by rfl, ?_⟩) ?_ ?_
          rotate_left
          · intro w'
            go_simp
            with_reducible rfl
          rotate_left
          · simp only [Act.put, List.setIfInBounds_toArray, List.set_cons_zero, List.set_cons_succ, i64_w, i32_w]
            rfl
          refine pure_ (i := 11) (N := some 57) (v := ?_) (a' := ?_) #[true, true, true, true, true, true, true, false, true, true, true, true, false, false, false] rfl rfl (by kernel_rfl) (fun _ _ _ h => h) (Or.inl ⟨by rfl, ?_⟩) ?_ ?_
          rotate_left
          · intro w'
            go_simp
            with_reducible rfl
          rotate_left
          · simp only [Act.put, List.setIfInBounds_toArray, List.set_cons_zero, List.set_cons_succ, i64_w, i32_w]
            rfl
          refine take_ (i := 12) (N := some 58) (v := ?_) (a' := ?_) #[true, true, true, true, true, true, true, false, true, true, true, true, true, false, false] rfl rfl (by kernel_rfl) (fun _ _ _ h => h) (Or.inl ⟨by rfl, ?_⟩) hHeld ?_ ?_
          rotate_left
          · intro w' s0
            skip
            go_simp
            with_reducible rfl
          rotate_left
          · simp only [Act.put, List.setIfInBounds_toArray, List.set_cons_zero, List.set_cons_succ, i64_w, i32_w]
            rfl
          refine one_ (i := 7) (N := some 53) #[true, true, true, true, true, true, true, true, true, true, true, true, true, false, false] rfl rfl (by kernel_rfl) (by decide) (fun K hK => ?_)
          refine goes_ Try.func29 (by kernel_rfl) rfl #[.pointer (some ⟨g, 0, none⟩), .int .i64 (y.f3.size : Int)] (by rfl) rfl rfl (by (try simp only [List.map_toArray, List.map_cons, List.map_nil]); first | done | rfl) ?_
          refine (Reader_Text g A' c' (World.drew _) cur false Hb.out HC.out HRc.out HF.out H8.out HL.out (y.f3.size : Int) n cur' bad' HP.out).mono ?_
          rintro e w1 ⟨rfl, A1, c1', q1', q2, q3, q4, q5⟩
          have q5 := KB.undrew1 q5
          have Hb1 := Aside0.mk q1'
          have HC1 := Aside0.mk q2
          have HR1 := Aside0.mk (q3 w1 (reads_keep HRc.out q5.1 HF.out))
          have HF1 := Aside0.mk (q4 g HF.out)
          have HB1 := Aside0.mk (below_keep HB.out HG.out q5)
          have hS1 := field_keep q5 HNE.out hHeld
          clear q1' q2 q3 q4 q5
          refine ⟨_, rfl, ?_⟩
          refine hK.out _ _ hS1 (fun hHeld => ?_)
          clear hK K
          refine norm_ (a' := ?_) ?_ ?_
          rotate_left
          · show Act.put _ (some 53) _ = _
            simp only [Act.put, List.setIfInBounds_toArray, List.set_cons_zero, List.set_cons_succ, i64_w, i32_w]
            rfl
          refine pure_ (i := 13) (N := some 59) (v := ?_) (a' := ?_) #[true, true, true, true, true, true, true, true, true, true, true, true, true, true, false] rfl rfl (by kernel_rfl) (fun _ _ _ h => h) (Or.inl ⟨by rfl, ?_⟩) ?_ ?_
          rotate_left
          · intro w'
            go_simp
            with_reducible rfl
          rotate_left
          · simp only [Act.put, List.setIfInBounds_toArray, List.set_cons_zero, List.set_cons_succ, i64_w, i32_w]
            rfl
          refine pure_ (i := 14) (N := some 7) (v := ?_) (a' := ?_) #[true, true, true, true, true, true, true, true, true, true, true, true, true, true, true] rfl rfl (by kernel_rfl) (fun _ _ _ h => h) (Or.inl ⟨by rfl, ?_⟩) ?_ ?_
          rotate_left
          · intro w'
            go_simp
            with_reducible rfl
          rotate_left
          · simp only [Act.put, List.setIfInBounds_toArray, List.set_cons_zero, List.set_cons_succ, i64_w, i32_w]
            rfl
          refine done_ (by kernel_rfl) ?_
          go_wp2
          go_ret
          exact ⟨by first | rfl | (simp [hs]; done), by first | exact HB1.out | exact pw_below_drewN HB1.out _⟩
        | true =>
          cases bad' with
          | true =>
            have hR : R = false := ht.symm.trans (takenF_bad (.inr (by rw [ht1])))
            subst hR
            clear ht ht1
            go_wp2
            refine start_ (n := 15) (S := fun w' => w'.cell? ⟨(ad.add (x.toNat * 5)).block, (ad.add (x.toNat * 5)).off + 3, none⟩ = some (.string y.f3)) (ds := []) #[false, false, false, false, false, false, false, false, false, false, false, false, false, false, false] (by kernel_rfl) rfl rfl hx3 (fun hHeld => ?_)
            refine pure_ (i := 0) (N := some 46) (v := ?_) (a' := ?_) #[true, false, false, false, false, false, false, false, false, false, false, false, false, false, false] rfl rfl (by kernel_rfl) (fun _ _ _ h => h) (Or.inl ⟨by rfl, ?_⟩) ?_ ?_
            rotate_left
            · intro w'
              go_simp
              with_reducible rfl
            rotate_left
            · simp only [Act.put, List.setIfInBounds_toArray, List.set_cons_zero, List.set_cons_succ, i64_w, i32_w]
              rfl
            refine pure_ (i := 1) (N := some 47) (v := ?_) (a' := ?_) #[true, true, false, false, false, false, false, false, false, false, false, false, false, false, false] rfl rfl (by kernel_rfl) (fun _ _ _ h => h) (Or.inl ⟨by rfl, ?_⟩) ?_ ?_
            rotate_left
            · intro w'
              go_simp
              with_reducible rfl
            rotate_left
            · simp only [Act.put, List.setIfInBounds_toArray, List.set_cons_zero, List.set_cons_succ, i64_w, i32_w]
              rfl
            refine pure_ (i := 2) (N := some 48) (v := ?_) (a' := ?_) #[true, true, true, false, false, false, false, false, false, false, false, false, false, false, false] rfl rfl (by kernel_rfl) (fun _ _ _ h => h) (Or.inl ⟨by rfl, ?_⟩) ?_ ?_
            rotate_left
            · intro w'
              go_simp
              with_reducible rfl
            rotate_left
            · simp only [Act.put, List.setIfInBounds_toArray, List.set_cons_zero, List.set_cons_succ, i64_w, i32_w]
              rfl
            refine pure_ (i := 3) (N := some 49) (v := ?_) (a' := ?_) #[true, true, true, true, false, false, false, false, false, false, false, false, false, false, false] rfl rfl (by kernel_rfl) (fun _ _ _ h => h) (Or.inl ⟨by rfl, ?_⟩) ?_ ?_
            rotate_left
            · intro w'
              go_simp
              with_reducible rfl
            rotate_left
            · simp only [Act.put, List.setIfInBounds_toArray, List.set_cons_zero, List.set_cons_succ, i64_w, i32_w]
              rfl
            refine pure_ (i := 4) (N := some 50) (v := ?_) (a' := ?_) #[true, true, true, true, true, false, false, false, false, false, false, false, false, false, false] rfl rfl (by kernel_rfl) (fun _ _ _ h => h) (Or.inl ⟨by rfl, ?_⟩) ?_ ?_
            rotate_left
            · intro w'
              go_simp
              with_reducible rfl
            rotate_left
            · simp only [Act.put, List.setIfInBounds_toArray, List.set_cons_zero, List.set_cons_succ, i64_w, i32_w]
              rfl
            refine take_ (i := 5) (N := some 51) (v := ?_) (a' := ?_) #[true, true, true, true, true, true, false, false, false, false, false, false, false, false, false] rfl rfl (by kernel_rfl) (fun _ _ _ h => h) (Or.inl ⟨by rfl, ?_⟩) hHeld ?_ ?_
            rotate_left
            · intro w' s0
              skip
              go_simp
              with_reducible rfl
            rotate_left
            · simp only [Act.put, List.setIfInBounds_toArray, List.set_cons_zero, List.set_cons_succ, i64_w, i32_w]
              rfl
            refine pure_ (i := 6) (N := some 52) (v := ?_) (a' := ?_) #[true, true, true, true, true, true, true, false, false, false, false, false, false, false, false] rfl rfl (by kernel_rfl) (fun _ _ _ h => h) (Or.inl ⟨by rfl, ?_⟩) ?_ ?_
            rotate_left
            · intro w'
              go_simp
              with_reducible rfl
            rotate_left
            · simp only [Act.put, List.setIfInBounds_toArray, List.set_cons_zero, List.set_cons_succ, i64_w, i32_w]
              rfl
            refine pure_ (i := 8) (N := some 54) (v := ?_) (a' := ?_) #[true, true, true, true, true, true, true, false, true, false, false, false, false, false, false] rfl rfl (by kernel_rfl) (fun _ _ _ h => h) (Or.inl ⟨by rfl, ?_⟩) ?_ ?_
            rotate_left
            · intro w'
              go_simp
              with_reducible rfl
            rotate_left
            · simp only [Act.put, List.setIfInBounds_toArray, List.set_cons_zero, List.set_cons_succ, i64_w, i32_w]
              rfl
            refine pure_ (i := 9) (N := some 55) (v := ?_) (a' := ?_) #[true, true, true, true, true, true, true, false, true, true, false, false, false, false, false] rfl rfl (by kernel_rfl) (fun _ _ _ h => h) (Or.inl ⟨by rfl, ?_⟩) ?_ ?_
            rotate_left
            · intro w'
              go_simp
              with_reducible rfl
            rotate_left
            · simp only [Act.put, List.setIfInBounds_toArray, List.set_cons_zero, List.set_cons_succ, i64_w, i32_w]
              rfl
            refine pure_ (i := 10) (N := some 56) (v := ?_) (a' := ?_) #[true, true, true, true, true, true, true, false, true, true, true, false, false, false, false] rfl rfl (by kernel_rfl) (fun _ _ _ h => h) (Or.inl ⟨by rfl, ?_⟩) ?_ ?_
            rotate_left
            · intro w'
              go_simp
              with_reducible rfl
            rotate_left
            · simp only [Act.put, List.setIfInBounds_toArray, List.set_cons_zero, List.set_cons_succ, i64_w, i32_w]
              rfl
            refine pure_ (i := 11) (N := some 57) (v := ?_) (a' := ?_) #[true, true, true, true, true, true, true, false, true, true, true, true, false, false, false] rfl rfl (by kernel_rfl) (fun _ _ _ h => h) (Or.inl ⟨by rfl, ?_⟩) ?_ ?_
            rotate_left
            · intro w'
              go_simp
              with_reducible rfl
            rotate_left
            · simp only [Act.put, List.setIfInBounds_toArray, List.set_cons_zero, List.set_cons_succ, i64_w, i32_w]
              rfl
            refine take_ (i := 12) (N := some 58) (v := ?_) (a' := ?_) #[true, true, true, true, true, true, true, false, true, true, true, true, true, false, false] rfl rfl (by kernel_rfl) (fun _ _ _ h => h) (Or.inl ⟨by rfl, ?_⟩) hHeld ?_ ?_
            rotate_left
            · intro w' s0
              skip
              go_simp
              with_reducible rfl
            rotate_left
            · simp only [Act.put, List.setIfInBounds_toArray, List.set_cons_zero, List.set_cons_succ, i64_w, i32_w]
              rfl
            refine one_ (i := 7) (N := some 53) #[true, true, true, true, true, true, true, true, true, true, true, true, true, false, false] rfl rfl (by kernel_rfl) (by decide) (fun K hK => ?_)
            refine goes_ Try.func29 (by kernel_rfl) rfl #[.pointer (some ⟨g, 0, none⟩), .int .i64 (y.f3.size : Int)] (by rfl) rfl rfl (by (try simp only [List.map_toArray, List.map_cons, List.map_nil]); first | done | rfl) ?_
            refine (Reader_Text g A' c' (World.drew _) cur false Hb.out HC.out HRc.out HF.out H8.out HL.out (y.f3.size : Int) n cur' true HP.out).mono ?_
            rintro e w1 ⟨rfl, A1, c1', q1', q2, q3, q4, q5⟩
            have q5 := KB.undrew1 q5
            have Hb1 := Aside0.mk q1'
            have HC1 := Aside0.mk q2
            have HR1 := Aside0.mk (q3 w1 (reads_keep HRc.out q5.1 HF.out))
            have HF1 := Aside0.mk (q4 g HF.out)
            have HB1 := Aside0.mk (below_keep HB.out HG.out q5)
            have hS1 := field_keep q5 HNE.out hHeld
            clear q1' q2 q3 q4 q5
            refine ⟨_, rfl, ?_⟩
            refine hK.out _ _ hS1 (fun hHeld => ?_)
            clear hK K
            refine norm_ (a' := ?_) ?_ ?_
            rotate_left
            · show Act.put _ (some 53) _ = _
              simp only [Act.put, List.setIfInBounds_toArray, List.set_cons_zero, List.set_cons_succ, i64_w, i32_w]
              rfl
            refine pure_ (i := 13) (N := some 59) (v := ?_) (a' := ?_) #[true, true, true, true, true, true, true, true, true, true, true, true, true, true, false] rfl rfl (by kernel_rfl) (fun _ _ _ h => h) (Or.inl ⟨by rfl, ?_⟩) ?_ ?_
            rotate_left
            · intro w'
              go_simp
              with_reducible rfl
            rotate_left
            · simp only [Act.put, List.setIfInBounds_toArray, List.set_cons_zero, List.set_cons_succ, i64_w, i32_w]
              rfl
            refine pure_ (i := 14) (N := some 7) (v := ?_) (a' := ?_) #[true, true, true, true, true, true, true, true, true, true, true, true, true, true, true] rfl rfl (by kernel_rfl) (fun _ _ _ h => h) (Or.inl ⟨by rfl, ?_⟩) ?_ ?_
            rotate_left
            · intro w'
              go_simp
              with_reducible rfl
            rotate_left
            · simp only [Act.put, List.setIfInBounds_toArray, List.set_cons_zero, List.set_cons_succ, i64_w, i32_w]
              rfl
            refine done_ (by kernel_rfl) ?_
            go_wp2_with (first | (go_at_call 30; refine (Reader_Err g A1 c1' w1 cur' true Hb1.out).mono ?_; rintro e w3 ⟨rfl, ⟨nd, rfl⟩⟩))
            go_ret
            exact ⟨by first | rfl | (simp [hs]; done), by first | exact HB1.out | exact pw_below_drewN HB1.out _⟩
          | false =>
            have HT1 : Aside0 (takenF cur' (l.drop (wrap64 (x + 1)).toNat) = R) := ⟨by rw [hw, ← ht, takenF_go (by rw [ht1]) (by rw [ht1]), ht1]⟩
            clear ht ht1
            go_wp2
            refine start_ (n := 15) (S := fun w' => w'.cell? ⟨(ad.add (x.toNat * 5)).block, (ad.add (x.toNat * 5)).off + 3, none⟩ = some (.string y.f3)) (ds := []) #[false, false, false, false, false, false, false, false, false, false, false, false, false, false, false] (by kernel_rfl) rfl rfl hx3 (fun hHeld => ?_)
            refine pure_ (i := 0) (N := some 46) (v := ?_) (a' := ?_) #[true, false, false, false, false, false, false, false, false, false, false, false, false, false, false] rfl rfl (by kernel_rfl) (fun _ _ _ h => h) (Or.inl ⟨by rfl, ?_⟩) ?_ ?_
            rotate_left
            · intro w'
              go_simp
              with_reducible rfl
            rotate_left
            · simp only [Act.put, List.setIfInBounds_toArray, List.set_cons_zero, List.set_cons_succ, i64_w, i32_w]
              rfl
            refine pure_ (i := 1) (N := some 47) (v := ?_) (a' := ?_) #[true, true, false, false, false, false, false, false, false, false, false, false, false, false, false] rfl rfl (by kernel_rfl) (fun _ _ _ h => h) (Or.inl ⟨by rfl, ?_⟩) ?_ ?_
            rotate_left
            · intro w'
              go_simp
              with_reducible rfl
            rotate_left
            · simp only [Act.put, List.setIfInBounds_toArray, List.set_cons_zero, List.set_cons_succ, i64_w, i32_w]
              rfl
            refine pure_ (i := 2) (N := some 48) (v := ?_) (a' := ?_) #[true, true, true, false, false, false, false, false, false, false, false, false, false, false, false] rfl rfl (by kernel_rfl) (fun _ _ _ h => h) (Or.inl ⟨by rfl, ?_⟩) ?_ ?_
            rotate_left
            · intro w'
              go_simp
              with_reducible rfl
            rotate_left
            · simp only [Act.put, List.setIfInBounds_toArray, List.set_cons_zero, List.set_cons_succ, i64_w, i32_w]
              rfl
            refine pure_ (i := 3) (N := some 49) (v := ?_) (a' := ?_) #[true, true, true, true, false, false, false, false, false, false, false, false, false, false, false] rfl rfl (by kernel_rfl) (fun _ _ _ h => h) (Or.inl ⟨by rfl, ?_⟩) ?_ ?_
            rotate_left
            · intro w'
              go_simp
              with_reducible rfl
            rotate_left
            · simp only [Act.put, List.setIfInBounds_toArray, List.set_cons_zero, List.set_cons_succ, i64_w, i32_w]
              rfl
            refine pure_ (i := 4) (N := some 50) (v := ?_) (a' := ?_) #[true, true, true, true, true, false, false, false, false, false, false, false, false, false, false] rfl rfl (by kernel_rfl) (fun _ _ _ h => h) (Or.inl ⟨by rfl, ?_⟩) ?_ ?_
            rotate_left
            · intro w'
              go_simp
              with_reducible rfl
            rotate_left
            · simp only [Act.put, List.setIfInBounds_toArray, List.set_cons_zero, List.set_cons_succ, i64_w, i32_w]
              rfl
            refine take_ (i := 5) (N := some 51) (v := ?_) (a' := ?_) #[true, true, true, true, true, true, false, false, false, false, false, false, false, false, false] rfl rfl (by kernel_rfl) (fun _ _ _ h => h) (Or.inl ⟨by rfl, ?_⟩) hHeld ?_ ?_
            rotate_left
            · intro w' s0
              skip
              go_simp
              with_reducible rfl
            rotate_left
            · simp only [Act.put, List.setIfInBounds_toArray, List.set_cons_zero, List.set_cons_succ, i64_w, i32_w]
              rfl
            refine pure_ (i := 6) (N := some 52) (v := ?_) (a' := ?_) #[true, true, true, true, true, true, true, false, false, false, false, false, false, false, false] rfl rfl (by kernel_rfl) (fun _ _ _ h => h) (Or.inl ⟨by rfl, ?_⟩) ?_ ?_
            rotate_left
            · intro w'
              go_simp
              with_reducible rfl
            rotate_left
            · simp only [Act.put, List.setIfInBounds_toArray, List.set_cons_zero, List.set_cons_succ, i64_w, i32_w]
              rfl
            refine pure_ (i := 8) (N := some 54) (v := ?_) (a' := ?_) #[true, true, true, true, true, true, true, false, true, false, false, false, false, false, false] rfl rfl (by kernel_rfl) (fun _ _ _ h => h) (Or.inl ⟨by rfl, ?_⟩) ?_ ?_
            rotate_left
            · intro w'
              go_simp
              with_reducible rfl
            rotate_left
            · simp only [Act.put, List.setIfInBounds_toArray, List.set_cons_zero, List.set_cons_succ, i64_w, i32_w]
              rfl
            refine pure_ (i := 9) (N := some 55) (v := ?_) (a' := ?_) #[true, true, true, true, true, true, true, false, true, true, false, false, false, false, false] rfl rfl (by kernel_rfl) (fun _ _ _ h => h) (Or.inl ⟨by rfl, ?_⟩) ?_ ?_
            rotate_left
            · intro w'
              go_simp
              with_reducible rfl
            rotate_left
            · simp only [Act.put, List.setIfInBounds_toArray, List.set_cons_zero, List.set_cons_succ, i64_w, i32_w]
              rfl
            refine pure_ (i := 10) (N := some 56) (v := ?_) (a' := ?_) #[true, true, true, true, true, true, true, false, true, true, true, false, false, false, false] rfl rfl (by kernel_rfl) (fun _ _ _ h => h) (Or.inl ⟨by rfl, ?_⟩) ?_ ?_
            rotate_left
            · intro w'
              go_simp
              with_reducible rfl
            rotate_left
            · simp only [Act.put, List.setIfInBounds_toArray, List.set_cons_zero, List.set_cons_succ, i64_w, i32_w]
              rfl
            refine pure_ (i := 11) (N := some 57) (v := ?_) (a' := ?_) #[true, true, true, true, true, true, true, false, true, true, true, true, false, false, false] rfl rfl (by kernel_rfl) (fun _ _ _ h => h) (Or.inl ⟨by rfl, ?_⟩) ?_ ?_
            rotate_left
            · intro w'
              go_simp
              with_reducible rfl
            rotate_left
            · simp only [Act.put, List.setIfInBounds_toArray, List.set_cons_zero, List.set_cons_succ, i64_w, i32_w]
              rfl
            refine take_ (i := 12) (N := some 58) (v := ?_) (a' := ?_) #[true, true, true, true, true, true, true, false, true, true, true, true, true, false, false] rfl rfl (by kernel_rfl) (fun _ _ _ h => h) (Or.inl ⟨by rfl, ?_⟩) hHeld ?_ ?_
            rotate_left
            · intro w' s0
              skip
              go_simp
              with_reducible rfl
            rotate_left
            · simp only [Act.put, List.setIfInBounds_toArray, List.set_cons_zero, List.set_cons_succ, i64_w, i32_w]
              rfl
            refine one_ (i := 7) (N := some 53) #[true, true, true, true, true, true, true, true, true, true, true, true, true, false, false] rfl rfl (by kernel_rfl) (by decide) (fun K hK => ?_)
            refine goes_ Try.func29 (by kernel_rfl) rfl #[.pointer (some ⟨g, 0, none⟩), .int .i64 (y.f3.size : Int)] (by rfl) rfl rfl (by (try simp only [List.map_toArray, List.map_cons, List.map_nil]); first | done | rfl) ?_
            refine (Reader_Text g A' c' (World.drew _) cur false Hb.out HC.out HRc.out HF.out H8.out HL.out (y.f3.size : Int) n cur' false HP.out).mono ?_
            rintro e w1 ⟨rfl, A1, c1', q1', q2, q3, q4, q5⟩
            have q5 := KB.undrew1 q5
            have Hb1 := Aside0.mk q1'
            have HC1 := Aside0.mk q2
            have HR1 := Aside0.mk (q3 w1 (reads_keep HRc.out q5.1 HF.out))
            have HF1 := Aside0.mk (q4 g HF.out)
            have HB1 := Aside0.mk (below_keep HB.out HG.out q5)
            have hS1 := field_keep q5 HNE.out hHeld
            clear q1' q2 q3 q4 q5
            refine ⟨_, rfl, ?_⟩
            refine hK.out _ _ hS1 (fun hHeld => ?_)
            clear hK K
            refine norm_ (a' := ?_) ?_ ?_
            rotate_left
            · show Act.put _ (some 53) _ = _
              simp only [Act.put, List.setIfInBounds_toArray, List.set_cons_zero, List.set_cons_succ, i64_w, i32_w]
              rfl
            refine pure_ (i := 13) (N := some 59) (v := ?_) (a' := ?_) #[true, true, true, true, true, true, true, true, true, true, true, true, true, true, false] rfl rfl (by kernel_rfl) (fun _ _ _ h => h) (Or.inl ⟨by rfl, ?_⟩) ?_ ?_
            rotate_left
            · intro w'
              go_simp
              with_reducible rfl
            rotate_left
            · simp only [Act.put, List.setIfInBounds_toArray, List.set_cons_zero, List.set_cons_succ, i64_w, i32_w]
              rfl
            refine pure_ (i := 14) (N := some 7) (v := ?_) (a' := ?_) #[true, true, true, true, true, true, true, true, true, true, true, true, true, true, true] rfl rfl (by kernel_rfl) (fun _ _ _ h => h) (Or.inl ⟨by rfl, ?_⟩) ?_ ?_
            rotate_left
            · intro w'
              go_simp
              with_reducible rfl
            rotate_left
            · simp only [Act.put, List.setIfInBounds_toArray, List.set_cons_zero, List.set_cons_succ, i64_w, i32_w]
              rfl
            refine done_ (by kernel_rfl) ?_
            go_wp2_with (first | (go_at_call 30; refine (Reader_Err g A1 c1' w1 cur' false Hb1.out).mono ?_; rintro e w3 ⟨rfl, ⟨nd, rfl⟩⟩))
            go_roundg (gk - 1)
            case measure => have := HKK.out; omega
            case rel => exact ⟨wrap64 (x + 1), cur', A1, c1', rfl, ⟨by rw [hw]; have := HKK.out; omega⟩, Hb1, HC1, HR1, HF1, H8', HL', HT1, ⟨pw_below_drewN HB1.out _⟩⟩
      · obtain ⟨⟨n, cur', bad'⟩, hp⟩ : ∃ r, rInt cur false = r := ⟨_, rfl⟩
        have ht1 : take1 y cur = ((n == y.f1), cur', bad') := by unfold take1; rw [if_pos (.inr h), hp]
        have hsub := sub_bytes (rInt_sub _ _ _ _ hp)
        have H8' := Aside0.mk (hsub.1 H8.out)
        have HL' := Aside0.mk (Nat.lt_of_le_of_lt hsub.2 HL.out)
        have HP := Aside0.mk hp
        clear hsub hp
        have d0 : (y.f0 == 0) = false := beq_eq_false_iff_ne.mpr (by omega)
        have d1 : (y.f0 == 1) = false := beq_eq_false_iff_ne.mpr (by omega)
        have d2 : (y.f0 == 2) = false := beq_eq_false_iff_ne.mpr (by omega)
        have d3 : (y.f0 == 3) = true := beq_iff_eq.mpr (by omega)
        clear h
        obtain ⟨same, hs⟩ : ∃ b, (n == y.f1) = b := ⟨_, rfl⟩
        rw [hs] at ht1
        cases same with
        | false =>
          have hR : R = false := ht.symm.trans (takenF_bad (.inl (by rw [ht1])))
          subst hR
          clear ht ht1
          go_wp2_with (first | (go_at_call 25; refine (Reader_Int g A' c' _ cur false Hb.out HC.out HRc.out HF.out H8.out HL.out n cur' bad' HP.out).mono ?_; rintro e w1 ⟨rfl, A1, c1', q1', q2, q3, q4, q5⟩; have Hb1 := Aside0.mk q1'; have HC1 := Aside0.mk q2; have HR1 := Aside0.mk (q3 w1 (reads_keep HRc.out q5.1 HF.out)); have HF1 := Aside0.mk (q4 g HF.out); have HB1 := Aside0.mk (below_keep HB.out HG.out q5); have hx1' := field_keep q5 HNE.out hx1; clear q1' q2 q3 q4 q5))
          go_ret
          exact ⟨by first | rfl | (simp [hs]; done), by first | exact HB1.out | exact pw_below_drewN HB1.out _⟩
        | true =>
          cases bad' with
          | true =>
            have hR : R = false := ht.symm.trans (takenF_bad (.inr (by rw [ht1])))
            subst hR
            clear ht ht1
            go_wp2_with (first | (go_at_call 25; refine (Reader_Int g A' c' _ cur false Hb.out HC.out HRc.out HF.out H8.out HL.out n cur' true HP.out).mono ?_; rintro e w1 ⟨rfl, A1, c1', q1', q2, q3, q4, q5⟩; have Hb1 := Aside0.mk q1'; have HC1 := Aside0.mk q2; have HR1 := Aside0.mk (q3 w1 (reads_keep HRc.out q5.1 HF.out)); have HF1 := Aside0.mk (q4 g HF.out); have HB1 := Aside0.mk (below_keep HB.out HG.out q5); have hx1' := field_keep q5 HNE.out hx1; clear q1' q2 q3 q4 q5) | (go_at_call 30; refine (Reader_Err g A1 c1' w1 cur' true Hb1.out).mono ?_; rintro e w3 ⟨rfl, ⟨nd, rfl⟩⟩))
            go_ret
            exact ⟨by first | rfl | (simp [hs]; done), by first | exact HB1.out | exact pw_below_drewN HB1.out _⟩
          | false =>
            have HT1 : Aside0 (takenF cur' (l.drop (wrap64 (x + 1)).toNat) = R) := ⟨by rw [hw, ← ht, takenF_go (by rw [ht1]) (by rw [ht1]), ht1]⟩
            clear ht ht1
            go_wp2_with (first | (go_at_call 25; refine (Reader_Int g A' c' _ cur false Hb.out HC.out HRc.out HF.out H8.out HL.out n cur' false HP.out).mono ?_; rintro e w1 ⟨rfl, A1, c1', q1', q2, q3, q4, q5⟩; have Hb1 := Aside0.mk q1'; have HC1 := Aside0.mk q2; have HR1 := Aside0.mk (q3 w1 (reads_keep HRc.out q5.1 HF.out)); have HF1 := Aside0.mk (q4 g HF.out); have HB1 := Aside0.mk (below_keep HB.out HG.out q5); have hx1' := field_keep q5 HNE.out hx1; clear q1' q2 q3 q4 q5) | (go_at_call 30; refine (Reader_Err g A1 c1' w1 cur' false Hb1.out).mono ?_; rintro e w3 ⟨rfl, ⟨nd, rfl⟩⟩))
            go_roundg (gk - 1)
            case measure => have := HKK.out; omega
            case rel => exact ⟨wrap64 (x + 1), cur', A1, c1', rfl, ⟨by rw [hw]; have := HKK.out; omega⟩, Hb1, HC1, HR1, HF1, H8', HL', HT1, ⟨pw_below_drewN HB1.out _⟩⟩
      · have ht1 : take1 y cur = (true, cur, false) := by unfold take1; rw [if_neg (by omega), if_neg (by omega), if_neg (by omega)]
        have HT1 : Aside0 (takenF cur (l.drop (wrap64 (x + 1)).toNat) = R) := ⟨by rw [hw, ← ht, takenF_go (by rw [ht1]) (by rw [ht1]), ht1]⟩
        have d0 : (y.f0 == 0) = false := beq_eq_false_iff_ne.mpr (by omega)
        have d1 : (y.f0 == 1) = false := beq_eq_false_iff_ne.mpr (by omega)
        have d2 : (y.f0 == 2) = false := beq_eq_false_iff_ne.mpr (by omega)
        have d3 : (y.f0 == 3) = false := beq_eq_false_iff_ne.mpr (by omega)
        clear h ht ht1
        go_wp2_with (first | (go_at_call 30; refine (Reader_Err g A' c' _ cur false Hb.out).mono ?_; rintro e w3 ⟨rfl, ⟨nd, rfl⟩⟩))
        go_roundg (gk - 1)
        case measure => have := HKK.out; omega
        case rel => exact ⟨wrap64 (x + 1), cur, A', c', rfl, ⟨by rw [hw]; have := HKK.out; omega⟩, Hb, HC, HRc, HF, H8, HL, HT1, ⟨pw_below_drewN HB.out _⟩⟩
    · have he : x = l.length := by have := HK.out; omega
      subst he
      have c0 : decide ((l.length : Int) < (l.length : Int)) = false := decide_eq_false (by omega)
      have ht := HT.out
      rw [Int.toNat_natCast, List.drop_length] at ht
      have hz : ((cur.length : Int) == 0) = R := by
        rw [← ht]; show _ = (cur.length == 0)
        by_cases h : cur.length = 0
        · rw [h]; rfl
        · rw [beq_eq_false_iff_ne.mpr (show (cur.length : Int) ≠ 0 by omega), beq_eq_false_iff_ne.mpr h]
      have HZ := Aside0.mk hz
      clear HK hlt hz ht HT
      go_wp2_with (first | (go_at_call 31; refine (Reader_Left g A' c' _ cur false Hb.out).mono ?_; rintro e w3 ⟨rfl, ⟨nd, rfl⟩⟩))
      go_ret
      exact ⟨congrArg (fun b => Ending.returned (.bool b)) HZ.out, pw_below_drewN HB.out _⟩
end Go.Proofs.Ytnlbmhojjjjpdaa.Pk
