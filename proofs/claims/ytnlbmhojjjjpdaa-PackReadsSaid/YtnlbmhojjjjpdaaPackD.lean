/- The contracts of pack's Reader: what each call takes, and what it leaves. -/
import Derived.Test.YtnlbmhojjjjpdaaPackC
namespace Go.Proofs.Ytnlbmhojjjjpdaa.Pk
open Go.RowKit Go.Proofs.YtnlbmhojjjjpdaaW.PrintWords Go.Proofs.YtnlbmhojjjjpdaaW.PrintLast Go.Proofs.YtnlbmhojjjjpdaaW.PrintMore
set_option linter.unusedVariables false
set_option linter.unusedSimpArgs false

/-- Nothing but one block has changed. -/
def KB (w w' : World) (g : Nat) : Prop := KeepBut w w' g none ∧ Below 0 w w'
theorem KB.refl (w : World) (g : Nat) : KB w w g := ⟨KeepBut.refl _ _ _, Below.refl _ _⟩
theorem KB.drawn {w w' : World} {g : Nat} (h : Drawn0 w w') : KB w w' g := ⟨KeepBut.of_below h.below g none, by obtain ⟨n, rfl⟩ := h; exact pw_below_drewN (Below.refl _ _) n⟩
theorem KB.set_ {w w' : World} {g : Nat} (h : KB w w' g) (j : Nat) (u : Value) : KB w (w'.setCell ⟨g, j, none⟩ u) g := ⟨h.1.set_ j u, h.2.setCell (p := ⟨g, j, none⟩) (Nat.zero_le _) u⟩
theorem KB.trans {w w' w2 : World} {g : Nat} (h : KB w w' g) (k : KB w' w2 g) : KB w w2 g := ⟨h.1.trans k.1 (.inl rfl), k.2.os.trans h.2.os, k.2.tape.trans h.2.tape, k.2.output.trans h.2.output, Nat.le_trans h.2.size k.2.size, fun i hi => absurd hi (Nat.not_lt_zero _)⟩
theorem KB.undrew {w w2 : World} {g n : Nat} (k : KB (w.drewN n) w2 g) : KB w w2 g := KB.trans (KB.drawn ⟨⟨n, rfl⟩⟩) k
theorem below_keep {w w1 w2 : World} {g : Nat} (h : Below w.heap.size w w1) (hg : w.heap.size ≤ g) (k : KB w1 w2 g) : Below w.heap.size w w2 :=
  ⟨k.2.os.trans h.os, k.2.tape.trans h.tape, k.2.output.trans h.output, Nat.le_trans h.size k.2.size, fun i hi => (k.1.2 i (Nat.lt_of_lt_of_le hi h.size) (by omega) (by simp)).trans (h.block i hi)⟩
/-- What a call leaves of a reader (of type t, at block g) whose bytes lay at A: the bytes and the mark that it has now; all else is as it was. -/
def RdPost (t g : Nat) (A : Option Addr) (bs : List Int) (w w' : World) (bs' : List Int) (bad' : Bool) : Prop :=
  ∃ A' c', w'.heap[g]? = some (.cells #[.slice A' bs'.length c', .bool bad'] t (0, 0)) ∧ bs'.length ≤ c' ∧ (∀ W', ReadsInt W' .u8 A bs.length bs → ReadsInt W' .u8 A' bs'.length bs') ∧ (∀ k : Nat, (∀ ad, A = some ad → ad.block ≠ k) → ∀ ad, A' = some ad → ad.block ≠ k) ∧ KB w w' g
theorem RdPost.same {t g : Nat} {A : Option Addr} {c : Nat} {bs : List Int} {w w' : World} {bad : Bool} (hb : w'.heap[g]? = some (.cells #[.slice A bs.length c, .bool bad] t (0, 0))) (hc : bs.length ≤ c) (hk : KB w w' g) : RdPost t g A bs w w' bs bad :=
  ⟨A, c, hb, hc, fun _ h => h, fun _ h => h, hk⟩
theorem heap_drawn {w w' : World} (h : Drawn0 w w') (g : Nat) : w'.heap[g]? = w.heap[g]? := by obtain ⟨n, rfl⟩ := h; rfl
theorem add_block (a : Addr) (j : Nat) : (a.add j).block = a.block := by unfold Addr.add; split <;> rfl
theorem cell_keepN {w w' : World} {g : Nat} {a : Addr} {j : Nat} {v : Value} (hk : KeepBut w w' g none) (hne : a.block ≠ g) (h : w.cell? (a.add j) = some v) : w'.cell? (a.add j) = some v := by
  have hlt := World.block_lt_of_cell? w _ h
  have hh := hk.2 (a.add j).block hlt (by rw [add_block]; exact hne) (by simp)
  rw [← h]
  unfold World.cell?
  rw [hh]
theorem cut8 (A : Option Addr) (bs : List Int) (c : Nat) (j : Int) (h0 : 0 ≤ j) (hm : j ≤ bs.length) (hc : bs.length ≤ c) :
    ∃ A' : Option Addr, (∀ W : World, (Instr.slice 25 (.slice A bs.length c) (some (.int .i64 j)) none none).run Try.prog W = .ok (.slice A' (bs.drop j.toNat).length (c - j.toNat)) W) ∧
      (∀ W' : World, ReadsInt W' .u8 A bs.length bs → ReadsInt W' .u8 A' (bs.drop j.toNat).length (bs.drop j.toNat)) ∧ (bs.drop j.toNat).length ≤ c - j.toNat ∧ (∀ k : Nat, (∀ ad, A = some ad → ad.block ≠ k) → ∀ ad, A' = some ad → ad.block ≠ k) := by
  obtain ⟨m, rfl⟩ := Int.eq_ofNat_of_zero_le h0
  simp only [Int.toNat_natCast]
  have hmn : m ≤ bs.length := by omega
  obtain ⟨i, hi, hz0, hz1, hz2⟩ := info_parts info5
  have hl : (bs.drop m).length = bs.length - m := List.length_drop
  have hu := Try.underlying25
  have hel : Try.prog.elem 25 = 5 := by simp [Program.elem, hu]
  have hu' : Try.prog.underlying 25 = some (.slice (Try.prog.elem 25)) := by rw [hel]; exact hu
  refine ⟨if c = m then A else A.map (·.add m), fun W => ?_, fun W' h => by rw [hl]; exact h.drop_ m hmn hc, by rw [hl]; omega, fun k hk ad had => ?_⟩
  · rw [hl, run_slice_l W 25 A bs.length c hu' .i64 (m : Int) (Int.natCast_nonneg _) (by omega), hel]
    simp [sizeOf, typeInfo, hi, hz1, sliced, Result.andThen]
  · by_cases e : c = m
    · rw [if_pos e] at had; exact hk ad had
    · rw [if_neg e] at had
      cases A with
      | none => cases had
      | some a =>
        simp only [Option.map_some, Option.some.injEq] at had
        subst had
        have := hk a rfl
        have hb : (a.add m).block = a.block := by unfold Addr.add; split <;> rfl
        rw [hb]; exact this
set_option maxHeartbeats 4000000 in
set_option maxRecDepth 100000 in
theorem Reader_take (g : Nat) (A : Option Addr) (c : Nat) (w : World) (bs : List Int) (bad : Bool) (n : Int) (hb : w.heap[g]? = some (.cells #[.slice A bs.length c, .bool bad] 70 (0, 0))) (hc : bs.length ≤ c) (h0 : 0 ≤ n) (h1 : n ≤ bs.length) (hl : bs.length < 1000000000) :
    Calls Try.prog 57 #[.pointer (some ⟨g, 0, none⟩), .int .i64 n] w fun e w' => e = .returned (.slice A (bs.take n.toNat).length c) ∧ RdPost 70 g A bs w w' (bs.drop n.toNat) bad := by
  obtain ⟨i, hi, hz0, hz1, hz2⟩ := info_parts info5
  have hT := (print_take_int (k := .u8) 25 5 Try.underlying25 hi hz1 A c bs n h0 h1 hc).1
  obtain ⟨A', hD, hR, hcD, hF⟩ := cut8 A bs c n h0 h1 hc
  have hc0 : w.cell? ⟨g, 0, none⟩ = some (.slice A bs.length c) := (blk_cell hb 0).trans rfl
  have hf0 : w.frozen? ⟨g, 0, none⟩ = false := blk_frozen hb 0
  have Hb := Aside0.mk (blk_set hb 0 (.slice A' (bs.drop n.toNat).length (c - n.toNat)))
  have HR := Aside0.mk hR
  have HF := Aside0.mk hF
  have HcD := Aside0.mk hcD
  clear hb hi hz0 hz1 hz2 hR hF hcD
  obtain ⟨lt, hlt⟩ : ∃ lt, lt = (bs.take n.toNat).length := ⟨_, rfl⟩
  obtain ⟨ld, hld⟩ : ∃ ld, ld = (bs.drop n.toNat).length := ⟨_, rfl⟩
  rw [← hlt] at hT
  rw [← hld] at hD
  have HLT := Aside0.mk hlt
  have HLD := Aside0.mk hld
  clear hlt hld
  go_enter Try.func57, Try.ntmps57
  go_wp2
  go_ret
  exact ⟨congrArg (fun l => Ending.returned (.slice A l c)) HLT.out, A', c - n.toNat, by rw [HLD.out]; exact Hb.out, HcD.out, HR.out, HF.out, (KB.refl _ _).set_ 0 _⟩

set_option maxHeartbeats 4000000 in
set_option maxRecDepth 100000 in
theorem Reader_Int (g : Nat) (A : Option Addr) (c : Nat) (w : World) (bs : List Int) (bad : Bool) (hb : w.heap[g]? = some (.cells #[.slice A bs.length c, .bool bad] 70 (0, 0))) (hc : bs.length ≤ c) (hrd : ReadsInt w .u8 A bs.length bs) (hfar : ∀ ad, A = some ad → ad.block ≠ g) (h8 : Bytes8 bs) (hl : bs.length < 1000000000) (n : Int) (bs' : List Int) (bad' : Bool) (hr : rInt bs bad = (n, bs', bad')) :
    Calls Try.prog 25 #[.pointer (some ⟨g, 0, none⟩)] w fun e w' => e = .returned (.int .i64 n) ∧ RdPost 70 g A bs w w' bs' bad' := by
  have HN := Aside0.mk (Reader_next g w bs bad ⟨A, c, hb, hc, hrd, hfar⟩ h8 hl (rNext bs bad) rfl)
  have hsz := rNext_size bs bad
  unfold rInt at hr
  have hf1 : w.frozen? ⟨g, 1, none⟩ = false := blk_frozen hb 1
  have hc1 : w.cell? ⟨g, 1, none⟩ = some (.bool bad) := (blk_cell hb 1).trans rfl
  generalize rNext bs bad = r at *
  obtain ⟨v, z⟩ := r
  simp only at *
  by_cases hz : z = 0
  · rw [if_pos hz] at hr
    simp only [Prod.mk.injEq] at hr
    obtain ⟨rfl, rfl, rfl⟩ := hr
    have d1 : (z == 0) = true := beq_iff_eq.mpr hz
    have Hb := Aside0.mk (blk_set hb 1 (.bool true))
    have HC := Aside0.mk hc
    clear hz hsz hb hrd hfar h8 hc hl
    go_enter Try.func25, Try.ntmps25
    go_wp2_with (first | (go_at_call 56; refine HN.out.mono ?_; rintro e w' ⟨rfl, ⟨nd, rfl⟩⟩))
    go_ret
    exact ⟨rfl, RdPost.same (by first | exact Hb.out | simpa using Hb.out) HC.out ((KB.drawn (by repeat (first | exact Drawn0.refl _ | apply Drawn0.step))).set_ 1 _)⟩
  · rw [if_neg hz] at hr
    simp only [Prod.mk.injEq] at hr
    obtain ⟨rfl, rfl, rfl⟩ := hr
    have d1 : (z == 0) = false := beq_eq_false_iff_ne.mpr hz
    have HT := Aside0.mk (fun nd => Reader_take g A c (w.drewN nd) bs bad z hb hc (by omega) (by omega) hl)
    clear hz hsz hb hrd hfar h8 hc hl
    go_enter Try.func25, Try.ntmps25
    go_wp2_with (first | (go_at_call 56; refine HN.out.mono ?_; rintro e w' ⟨rfl, ⟨nd, rfl⟩⟩) | (go_at_call 57; refine (HT.out _).mono ?_; rintro e w2 ⟨rfl, hq⟩; have HQ := Aside0.mk hq; clear hq))
    go_ret
    obtain ⟨A2, c2, q1, q2, q3, q4, q5⟩ := HQ.out
    exact ⟨rfl, A2, c2, q1, q2, q3, q4, q5.undrew⟩
end Go.Proofs.Ytnlbmhojjjjpdaa.Pk
