/- The contracts of pack's Reader.Text, Read, Writer.Bytes and Writer.Text. -/
import Derived.Test.YtnlbmhojjjjpdaaPackE
import Derived.Test.YtnlbmhojjjjpdaaPackB
namespace Go.Proofs.Ytnlbmhojjjjpdaa.Pk
open Go.RowKit Go.Proofs.YtnlbmhojjjjpdaaW.PrintWords Go.Proofs.YtnlbmhojjjjpdaaW.PrintLast Go.Proofs.YtnlbmhojjjjpdaaW.PrintMore
set_option linter.unusedVariables false
set_option linter.unusedSimpArgs false

theorem reads_keep {w w' : World} {g n : Nat} {A : Option Addr} {xs : List Int} (h : ReadsInt w .u8 A n xs) (hk : KeepBut w w' g none) (hf : ∀ ad, A = some ad → ad.block ≠ g) : ReadsInt w' .u8 A n xs :=
  ReadsOf.keep h hk (fun ad e _ => hf ad e)
theorem take_len {g n : Nat} {A2 : Option Addr} {c2 L : Nat} {v : Int} {w2 : World} {Q : World → Prop} (h : L = n) (hc : Calls Try.prog 57 #[.pointer (some ⟨g, 0, none⟩), .int .i64 v] w2 fun e w' => e = .returned (.slice A2 L c2) ∧ Q w') :
    Calls Try.prog 57 #[.pointer (some ⟨g, 0, none⟩), .int .i64 v] w2 fun e w' => e = .returned (.slice A2 n c2) ∧ Q w' := by subst h; exact hc
theorem reads_take2 {w : World} {A : Option Addr} {n : Nat} {xs : List Int} {v : Int} (h0 : 0 ≤ v) (h1 : v ≤ n) (h : ReadsInt w .u8 A n xs) : ReadsInt w .u8 A (xs.take v.toNat).length (xs.take v.toNat) := by
  have hn : xs.length = n := h.1
  rw [show (xs.take v.toNat).length = v.toNat from by rw [List.length_take]; omega]
  exact h.take_ v.toNat (by omega)
/-- What a copy leaves. -/
def Copied (w w' : World) (v : Value) (bs : List Int) : Prop := w'.ownsRow w.heap.size 5 1 v bs.length (nums .u8 bs) ∧ Below w.heap.size w w'
def CopyPost (w : World) (bs : List Int) (e : Ending) (w' : World) : Prop := ∃ v, e = .returned v ∧ Copied w w' v bs
set_option maxHeartbeats 4000000 in
set_option maxRecDepth 100000 in
theorem Clone8 (A : Option Addr) (c : Nat) (w : World) (bs : List Int) (hc : bs.length ≤ c) (hrd : ReadsInt w .u8 A bs.length bs) (hl : bs.length < 1000000000) :
    Calls Try.prog 55 #[.slice A bs.length c] w (CopyPost w bs) := by
  have heq := fun (w' : World) => Go.Lib.run_eql_slice_nil (P := Try.prog) w' 25 5 A bs.length c 0 0 Try.underlying25
  cases A with
  | none =>
    have h0 : bs = [] := by
      rcases Nat.eq_zero_or_pos bs.length with h | h
      · exact List.eq_nil_of_length_eq_zero h
      · obtain ⟨ad, e, _⟩ := hrd.2.2 h; cases e
    subst h0
    simp only [List.length_nil] at heq
    clear hrd hl hc
    go_enter Try.func55, Try.ntmps55
    go_wp2
    go_ret
    exact ⟨_, rfl, own_nil _ _ _ _, by repeat (first | exact Below.refl _ _ | apply pw_below_drewN | apply below_drew1)⟩
  | some ad =>
    have HR := Aside0.mk hrd
    have HL := Aside0.mk hl
    clear hrd hl hc
    go_enter Try.func55, Try.ntmps55
    go_wp2_with (first | (at_builtin; refine print_append_row (w0 := w) w.heap.size rfl (.tmp 5) (.tmp 6) 25 5 .u8 1 rfl Try.underlying25 info5 (by decide) _ [] bs (some ad) bs.length c rfl rfl (own_lit w w.heap.size 5 .u8 [] (Nat.le_refl _) (by simp)) ((Kd.reads_of_C (enc := Value.int .u8) (d := (0 : Int)) (h1 := fun _ => rfl) (Kd.C_alloc (Kd.C_of_reads (d := (0 : Int)) (h1 := fun _ => rfl) HR.out) _))) (below_alloc (Below.refl _ w) _) (by simp) (by have := HL.out; simp; omega) ?_; intro v1 w1 hown hb1 hg1 _; have HO1 := Aside0.mk hown; have HB1 := Aside0.mk hb1; clear hown hb1 hg1))
    go_ret
    exact ⟨_, rfl, by simpa using HO1.out, HB1.out⟩

set_option maxHeartbeats 4000000 in
set_option maxRecDepth 100000 in
theorem Writer_Bytes (g : Nat) (W w : World) (bs : List Int) (hI : IsW W g w bs) (hl : bs.length < 1000000000) :
    Calls Try.prog 21 #[.pointer (some ⟨g, 0, none⟩)] w (CopyPost w bs) := by
  obtain ⟨hg, v, hb, ho⟩ := hI
  obtain ⟨A, c, rfl, hr⟩ := own_reads ho
  have hc : bs.length ≤ c := by
    rcases ho.2 with ⟨h, h2⟩ | ⟨g2, cap, cur, h, _, _, h3, _⟩
    · omega
    · injection h with _ _ h; omega
  have hcell : w.cell? ⟨g, 0, none⟩ = some (.slice A bs.length c) := (blk_cell hb 0).trans rfl
  have HC := Aside0.mk (Clone8 A c w bs hc hr hl)
  clear ho hb hg hr hl hc
  go_enter Try.func21, Try.ntmps21
  go_wp2_with (first | (go_at_call 55; refine HC.out.mono ?_; rintro e w1 ⟨v, rfl, hq⟩; have HQ := Aside0.mk hq; clear hq))
  go_ret
  exact ⟨_, rfl, HQ.out⟩

set_option maxHeartbeats 4000000 in
set_option maxRecDepth 100000 in
theorem Writer_Text (g : Nat) (W w : World) (bs : List Int) (s : ByteArray) (hB : Below W.heap.size W w) (hI : IsW W g w bs) (hl : bs.length < 900000000) (hs : s.size < 90000000) :
    Calls Try.prog 28 #[.pointer (some ⟨g, 0, none⟩), .string s] w fun e w' => e = .returned (.tuple #[]) ∧ IsW W g w' (bs ++ enc s.size ++ bytesOf s) ∧ Below W.heap.size W w' := by
  have HW := Aside0.mk (Writer_Int g W w bs (s.size : Int) hB hI (by omega) (by omega) (by omega))
  have hel := enc_len (s.size : Int)
  have HL : Aside0 ((bs ++ enc s.size).length + s.size ≤ 1000000000) := ⟨by rw [List.length_append]; omega⟩
  clear hB hI hl hs hel
  go_enter Try.func28, Try.ntmps28
  go_wp2_with (first | (go_at_call 20; refine HW.out.mono ?_; rintro e w1 ⟨rfl, ⟨hg, v, hb, ho⟩, hB⟩; obtain ⟨A, c, rfl⟩ := own_slice ho; have hcell : w1.cell? ⟨g, 0, none⟩ = some (.slice A (bs ++ enc s.size).length c) := (blk_cell hb 0).trans rfl; have HO := Aside0.mk ho; have HB := Aside0.mk hB; have Hb := Aside0.mk hb; have HG := Aside0.mk hg; have hne := Aside0.mk (own_ne ho hb (by decide)); clear ho hB hb hg) | (at_builtin; refine print_append_str (w0 := W) W.heap.size rfl (.tmp 12) (.tmp 13) 25 9 5 rfl Try.underlying25 Try.underlying9 info5 _ (bs ++ enc s.size) s (by simp [Act.eval, Act.put]) rfl HO.out HB.out HB.out.size (by have := HL.out; omega) ?_; intro v1 w2 hown hb1 hg1; have hbb := blk_grown Hb.out hg1 hne.out; obtain ⟨A1, c1, rfl⟩ := own_slice hown; have hc1 : w2.cell? ⟨g, 0, none⟩ = some (.slice A (bs ++ enc s.size).length c) := (blk_cell hbb 0).trans rfl; have hf1 : w2.frozen? ⟨g, 0, none⟩ = false := blk_frozen hbb 0; have HO1 := Aside0.mk hown; have HB1 := Aside0.mk hb1; have Hb1 := Aside0.mk hbb; clear hown hb1 hbb hg1))
  first | go_end0 | ((try simp only [Exit.inBlock, Exit.then]); refine bodyPost_ret (results_none rfl _ _ _) rfl ?_)
  exact ⟨rfl, IsW.stored HG.out Hb1.out (by simpa using HO1.out), HB1.out.setCell HG.out _⟩

set_option maxHeartbeats 8000000 in
set_option maxRecDepth 100000 in
theorem Reader_Text (g : Nat) (A : Option Addr) (c : Nat) (w : World) (bs : List Int) (bad : Bool) (hb : w.heap[g]? = some (.cells #[.slice A bs.length c, .bool bad] 70 (0, 0))) (hc : bs.length ≤ c) (hrd : ReadsInt w .u8 A bs.length bs) (hfar : ∀ ad, A = some ad → ad.block ≠ g) (h8 : Bytes8 bs) (hl : bs.length < 1000000000) (most : Int) (r : List Int) (bs' : List Int) (bad' : Bool) (hr : rText most bs bad = (r, bs', bad')) :
    Calls Try.prog 29 #[.pointer (some ⟨g, 0, none⟩), .int .i64 most] w fun e w' => e = .returned (.string (strOfNums r)) ∧ RdPost 70 g A bs w w' bs' bad' := by
  have HN := Aside0.mk (Reader_next g w bs bad ⟨A, c, hb, hc, hrd, hfar⟩ h8 hl (rNext bs bad) rfl)
  have hsz := rNext_size bs bad
  unfold rText at hr
  have hf1 : w.frozen? ⟨g, 1, none⟩ = false := blk_frozen hb 1
  have hc1 : w.cell? ⟨g, 1, none⟩ = some (.bool bad) := (blk_cell hb 1).trans rfl
  have hc0 : w.cell? ⟨g, 0, none⟩ = some (.slice A bs.length c) := (blk_cell hb 0).trans rfl
  generalize rNext bs bad = p at *
  obtain ⟨v, z⟩ := p
  simp only at *
  by_cases hz : z = 0 ∨ v < 0 ∨ most < v ∨ (bs.length : Int) - z < v
  · rw [if_pos hz] at hr
    simp only [Prod.mk.injEq] at hr
    obtain ⟨rfl, rfl, rfl⟩ := hr
    have Hb := Aside0.mk (blk_set hb 1 (.bool true))
    have HC := Aside0.mk hc
    have hwz : wrap64 ((bs.length : Int) - z) = (bs.length : Int) - z := by unfold wrap64; omega
    rcases (show z = 0 ∨ (z ≠ 0 ∧ v < 0) ∨ (z ≠ 0 ∧ ¬ v < 0 ∧ most < v) ∨ (z ≠ 0 ∧ ¬ v < 0 ∧ ¬ most < v ∧ (bs.length : Int) - z < v) by omega) with h | ⟨h, h2⟩ | ⟨h, h2, h3⟩ | ⟨h, h2, h3, h4⟩
    · have d1 : (z == 0) = true := beq_iff_eq.mpr h
      clear h hz hsz hb hrd hfar h8 hc hl
      go_enter Try.func29, Try.ntmps29
      go_wp2_with (first | (go_at_call 56; refine HN.out.mono ?_; rintro e w' ⟨rfl, ⟨nd, rfl⟩⟩))
      go_ret
      exact ⟨rfl, RdPost.same (by first | exact Hb.out | simpa using Hb.out) HC.out ((KB.drawn (by repeat (first | exact Drawn0.refl _ | apply Drawn0.step))).set_ 1 _)⟩
    · have d1 : (z == 0) = false := beq_eq_false_iff_ne.mpr h
      have d2 : decide (v < 0) = true := decide_eq_true h2
      clear h h2 hz hsz hb hrd hfar h8 hc hl
      go_enter Try.func29, Try.ntmps29
      go_wp2_with (first | (go_at_call 56; refine HN.out.mono ?_; rintro e w' ⟨rfl, ⟨nd, rfl⟩⟩))
      go_ret
      exact ⟨rfl, RdPost.same (by first | exact Hb.out | simpa using Hb.out) HC.out ((KB.drawn (by repeat (first | exact Drawn0.refl _ | apply Drawn0.step))).set_ 1 _)⟩
    · have d1 : (z == 0) = false := beq_eq_false_iff_ne.mpr h
      have d2 : decide (v < 0) = false := decide_eq_false h2
      have d3 : decide (most < v) = true := decide_eq_true h3
      clear h h2 h3 hz hsz hb hrd hfar h8 hc hl
      go_enter Try.func29, Try.ntmps29
      go_wp2_with (first | (go_at_call 56; refine HN.out.mono ?_; rintro e w' ⟨rfl, ⟨nd, rfl⟩⟩))
      go_ret
      exact ⟨rfl, RdPost.same (by first | exact Hb.out | simpa using Hb.out) HC.out ((KB.drawn (by repeat (first | exact Drawn0.refl _ | apply Drawn0.step))).set_ 1 _)⟩
    · have d1 : (z == 0) = false := beq_eq_false_iff_ne.mpr h
      have d2 : decide (v < 0) = false := decide_eq_false h2
      have d3 : decide (most < v) = false := decide_eq_false h3
      have d4 : decide ((bs.length : Int) - z < v) = true := decide_eq_true h4
      clear h h2 h3 h4 hz hsz hb hrd hfar h8 hc hl
      go_enter Try.func29, Try.ntmps29
      go_wp2_with (first | (go_at_call 56; refine HN.out.mono ?_; rintro e w' ⟨rfl, ⟨nd, rfl⟩⟩))
      go_ret
      exact ⟨rfl, RdPost.same (by first | exact Hb.out | simpa using Hb.out) HC.out ((KB.drawn (by repeat (first | exact Drawn0.refl _ | apply Drawn0.step))).set_ 1 _)⟩
  · rw [if_neg hz] at hr
    simp only [Prod.mk.injEq] at hr
    obtain ⟨rfl, rfl, rfl⟩ := hr
    have hwz : wrap64 ((bs.length : Int) - z) = (bs.length : Int) - z := by unfold wrap64; omega
    have d1 : (z == 0) = false := beq_eq_false_iff_ne.mpr (by omega)
    have d2 : decide (v < 0) = false := decide_eq_false (by omega)
    have d3 : decide (most < v) = false := decide_eq_false (by omega)
    have d4 : decide ((bs.length : Int) - z < v) = false := decide_eq_false (by omega)
    have HT := Aside0.mk (fun nd => Reader_take g A c (w.drewN nd) bs bad z hb hc (by omega) (by omega) hl)
    have hld : (bs.drop z.toNat).length = bs.length - z.toNat := List.length_drop
    have HV : Aside0 (0 ≤ v ∧ v ≤ (bs.drop z.toNat).length ∧ (bs.drop z.toNat).length < 1000000000) := ⟨by omega⟩
    have HLV : Aside0 (((bs.drop z.toNat).take v.toNat).length = v.toNat) := ⟨by rw [List.length_take]; have := HV.out; omega⟩
    have HRD := Aside0.mk hrd
    have HF := Aside0.mk hfar
    clear hz hsz hb hrd hfar h8 hc hl hld
    have tok1 : True := trivial
    go_enter Try.func29, Try.ntmps29
    go_wp2_with (first | (go_at_call 56; refine HN.out.mono ?_; rintro e w' ⟨rfl, ⟨nd, rfl⟩⟩) | (go_at_call 57; have _t := tok1; refine (HT.out _).mono ?_; rintro e w2 ⟨rfl, A2, c2, q1, q2, q3, q4, q5⟩; clear tok1; have HT2 := Aside0.mk (take_len HLV.out (Reader_take g A2 c2 w2 (bs.drop z.toNat) bad v q1 q2 HV.out.1 HV.out.2.1 HV.out.2.2)); have HR2 := Aside0.mk (q3 w2 (reads_keep HRD.out q5.1 HF.out)); have HF2 := Aside0.mk (q4 g HF.out); have HQ3 := Aside0.mk q3; have HQ4 := Aside0.mk q4; have HK := Aside0.mk q5.undrew; clear q1 q2 q3 q4 q5) | (go_at_call 57; refine HT2.out.mono ?_; rintro e w3 ⟨rfl, hq⟩; have HQ := Aside0.mk hq; have hcv := string_of_reads (c := c2) (dst := 9) Try.underlying25 Try.underlying5 Try.underlying9 ((reads_keep HR2.out hq.choose_spec.choose_spec.2.2.2.2.1 HF2.out).take_ v.toNat (by have := HV.out; omega)); clear hq))
    go_ret
    obtain ⟨A3, c3, q1, q2, q3, q4, q5⟩ := HQ.out
    exact ⟨rfl, A3, c3, q1, q2, fun W' h => q3 W' (HQ3.out W' h), fun k h => q4 k (HQ4.out k h), HK.out.trans q5⟩

/-- Read: a reader of its own at a new block, over a copy. -/
def ReadPost (w : World) (bs : List Int) (e : Ending) (w' : World) : Prop :=
  ∃ g A c, e = .returned (.pointer (some ⟨g, 0, none⟩)) ∧ w.heap.size ≤ g ∧ w'.heap[g]? = some (.cells #[.slice A bs.length c, .bool false] 70 (0, 0)) ∧ bs.length ≤ c ∧ ReadsInt w' .u8 A bs.length bs ∧ (∀ ad, A = some ad → ad.block ≠ g ∧ w.heap.size ≤ ad.block ∧ ∃ cs, w'.heap[ad.block]? = some (.cells cs 5 (0, 0))) ∧ Below w.heap.size w w'
set_option maxHeartbeats 4000000 in
set_option maxRecDepth 100000 in
theorem Pack_Read (A : Option Addr) (c : Nat) (w : World) (bs : List Int) (hc : bs.length ≤ c) (hrd : ReadsInt w .u8 A bs.length bs) (hl : bs.length < 1000000000) :
    Calls Try.prog 24 #[.slice A bs.length c] w (ReadPost w bs) := by
  have HC := Aside0.mk (Clone8 A c w bs hc hrd hl)
  clear hc hrd hl
  go_enter Try.func24, Try.ntmps24
  go_wp2_with (first | (go_at_call 55; refine HC.out.mono ?_; rintro e w1 ⟨v, rfl, hown, hb1⟩; obtain ⟨A1, c1, rfl, hr1⟩ := own_reads hown; have HO := Aside0.mk hown; have HB := Aside0.mk hb1; have HR := Aside0.mk hr1; clear hown hb1 hr1))
  go_ret
  refine ⟨w1.heap.size, A1, c1, rfl, HB.out.size, by simpa using heap_alloc_new w1 _, ?_, Kd.reads_of_C (enc := Value.int .u8) (d := (0 : Int)) (h1 := fun _ => rfl) (Kd.C_alloc (Kd.C_of_reads (d := (0 : Int)) (h1 := fun _ => rfl) HR.out) _), ?_, below_alloc HB.out _⟩
  · rcases HO.out.2 with ⟨h, h2⟩ | ⟨g2, cap, cur, h, _, _, h3, _⟩
    · omega
    · injection h with _ _ h; omega
  · intro ad e
    subst e
    have hlt := own_lt HO.out ad.block rfl
    obtain ⟨cs, hcs⟩ := own_typed HO.out ad.block rfl
    refine ⟨by omega, own_base HO.out ad.block rfl, cs, ?_⟩
    exact (((Below.refl w1.heap.size w1).alloc (Nat.le_refl _) _).block ad.block hlt).trans hcs
end Go.Proofs.Ytnlbmhojjjjpdaa.Pk
