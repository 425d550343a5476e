/- The contracts of package pack's Writer, and of the copies that it tells. -/
import Derived.Test.YtnlbmhojjjjpdaaPk0
namespace Go.Proofs.Ytnlbmhojjjjpdaa.Pk
open Go.RowKit Go.Proofs.YtnlbmhojjjjpdaaW.PrintWords Go.Proofs.YtnlbmhojjjjpdaaW.PrintLast Go.Proofs.YtnlbmhojjjjpdaaW.PrintMore
set_option linter.unusedVariables false
set_option linter.unusedSimpArgs false

/-- A truth's byte. -/
def bitI (b : Bool) : Int := cond b 1 0
/-- A Writer at block g that has laid down these bytes; all its memory is new since W. -/
def IsW (W : World) (g : Nat) (w : World) (bs : List Int) : Prop := W.heap.size ≤ g ∧ ∃ v, w.heap[g]? = some (.cells #[v] 33 (0, 0)) ∧ w.ownsRow W.heap.size 5 1 v bs.length (nums .u8 bs)
theorem IsW.drewN {W w : World} {g : Nat} {bs : List Int} (h : IsW W g w bs) (n : Nat) : IsW W g (w.drewN n) bs := h
/-- Behind an append onto the Writer's row: what the store of the field leaves. -/
theorem IsW.stored {W w1 : World} {g n c : Nat} {A : Option Addr} {v0 : Value} {bs : List Int} (hg : W.heap.size ≤ g) (hb : w1.heap[g]? = some (.cells #[v0] 33 (0, 0))) (ho : w1.ownsRow W.heap.size 5 1 (.slice A n c) bs.length (nums .u8 bs)) :
    IsW W g (w1.setCell ⟨g, 0, none⟩ (.slice A n c)) bs := by
  refine ⟨hg, .slice A n c, by simpa using blk_set hb 0 (.slice A n c), own_setCell ho ?_ _⟩
  exact own_ne ho hb (by decide)

set_option maxHeartbeats 4000000 in
set_option maxRecDepth 100000 in
theorem Writer_Bool (g : Nat) (W w : World) (bs : List Int) (b : Bool) (hB : Below W.heap.size W w) (hI : IsW W g w bs) (hl : bs.length < 1000000000) :
    Calls Try.prog 26 #[.pointer (some ⟨g, 0, none⟩), .bool b] w fun e w' => e = .returned (.tuple #[]) ∧ IsW W g w' (bs ++ [bitI b]) ∧ Below W.heap.size W w' := by
  obtain ⟨hg, v, hb, ho⟩ := hI
  obtain ⟨A, c, rfl⟩ := own_slice ho
  have hcell : w.cell? ⟨g, 0, none⟩ = some (.slice A bs.length c) := (blk_cell hb 0).trans rfl
  have HO := Aside0.mk ho
  have HB := Aside0.mk hB
  have Hb := Aside0.mk hb
  have HG := Aside0.mk hg
  have HL := Aside0.mk hl
  have hne := Aside0.mk (own_ne ho hb (by decide))
  clear ho hB hb hg hl
  cases b with
  | true =>
    go_enter Try.func26, Try.ntmps26
    go_wp2_with (at_builtin; refine print_append_num (w0 := W) W.heap.size rfl (.tmp 9) (.tmp 10) 25 5 .u8 1 rfl Try.underlying25 info5 (by decide) _ bs 1 rfl rfl HO.out HB.out HB.out.size (by have := HL.out; omega) ?_; intro v1 w1 hown hb1 hg1 _; have hbb := blk_grown Hb.out hg1 hne.out; obtain ⟨A1, c1, rfl⟩ := own_slice hown; have hc1 : w1.cell? ⟨g, 0, none⟩ = some (.slice A bs.length c) := (blk_cell hbb 0).trans rfl; have hf1 : w1.frozen? ⟨g, 0, none⟩ = false := blk_frozen hbb 0; have HO1 := Aside0.mk hown; have HB1 := Aside0.mk hb1; have Hb1 := Aside0.mk hbb; clear hown hb1 hbb hg1)
    first | go_end0 | ((try simp only [Exit.inBlock, Exit.then]); refine bodyPost_ret (results_none rfl _ _ _) rfl ?_)
    exact ⟨rfl, IsW.stored HG.out Hb1.out (by simpa [bitI] using HO1.out), HB1.out.setCell HG.out _⟩
  | false =>
    go_enter Try.func26, Try.ntmps26
    go_wp2_with (at_builtin; refine print_append_num (w0 := W) W.heap.size rfl (.tmp 18) (.tmp 19) 25 5 .u8 1 rfl Try.underlying25 info5 (by decide) _ bs 0 rfl rfl HO.out HB.out HB.out.size (by have := HL.out; omega) ?_; intro v1 w1 hown hb1 hg1 _; have hbb := blk_grown Hb.out hg1 hne.out; obtain ⟨A1, c1, rfl⟩ := own_slice hown; have hc1 : w1.cell? ⟨g, 0, none⟩ = some (.slice A bs.length c) := (blk_cell hbb 0).trans rfl; have hf1 : w1.frozen? ⟨g, 0, none⟩ = false := blk_frozen hbb 0; have HO1 := Aside0.mk hown; have HB1 := Aside0.mk hb1; have Hb1 := Aside0.mk hbb; clear hown hb1 hbb hg1)
    first | go_end0 | ((try simp only [Exit.inBlock, Exit.then]); refine bodyPost_ret (results_none rfl _ _ _) rfl ?_)
    exact ⟨rfl, IsW.stored HG.out Hb1.out (by simpa [bitI] using HO1.out), HB1.out.setCell HG.out _⟩
end Go.Proofs.Ytnlbmhojjjjpdaa.Pk
