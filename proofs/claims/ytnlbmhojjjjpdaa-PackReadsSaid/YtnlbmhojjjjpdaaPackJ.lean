/- PackOne: all ways together. -/
import Derived.Test.YtnlbmhojjjjpdaaPackI
namespace Go.Proofs.Ytnlbmhojjjjpdaa.Pk
open Go.RowKit Go.Proofs.YtnlbmhojjjjpdaaW.PrintWords Go.Proofs.YtnlbmhojjjjpdaaW.PrintLast Go.Proofs.YtnlbmhojjjjpdaaW.PrintMore
set_option linter.unusedVariables false
set_option linter.unusedSimpArgs false
set_option maxHeartbeats 2000000 in
set_option maxRecDepth 100000 in
theorem PackOne_big (A : Option Addr) (c : Nat) (bs : List Int) (kind : Int) (w : World) (hl : 5000 < bs.length) :
    Calls Try.prog 5 #[.slice A bs.length c, .int .i64 kind] w fun e w' => e = .returned (.bool true) ∧ Below w.heap.size w w' := by
  have HU := Aside0.mk (awake_calls w)
  have dl : decide ((bs.length : Int) > 5000) = true := decide_eq_true (by omega)
  clear hl
  go_enter Try.func5, Try.ntmps5
  go_wp2_with (first | (go_at_call 15; refine HU.out.mono ?_; rintro e w1 ⟨rfl, hB⟩; have HB1 := Aside0.mk hB; clear hB))
  go_ret
  exact ⟨rfl, HB1.out⟩
theorem PackOne_calls (A : Option Addr) (c : Nat) (bs : List Int) (kind : Int) (w : World) (hc : bs.length ≤ c) (hrd : ReadsInt w .u8 A bs.length bs) (h8 : Bytes8 bs) :
    Calls Try.prog 5 #[.slice A bs.length c, .int .i64 kind] w fun e w' => e = .returned (.bool true) ∧ Below w.heap.size w w' := by
  by_cases hl : 5000 < bs.length
  · exact PackOne_big A c bs kind w hl
  have hl : bs.length ≤ 5000 := Nat.le_of_not_lt hl
  have hpre : ∀ x bs' : List Int, bs = x ++ bs' → Bytes8 x := fun x bs' h y hy => h8 y (by rw [h]; exact List.mem_append_left _ hy)
  by_cases k0 : kind = 0
  · have d1 : (kind == 0) = true := beq_iff_eq.mpr k0
    obtain ⟨⟨n, bs', bad'⟩, hr⟩ : ∃ r, rInt bs false = r := ⟨_, rfl⟩
    obtain ⟨hn, ho1, ho2⟩ := rInt_own bs bs' n bad' h8 hr
    cases bad' with
    | true => exact PackOne_0b A c bs kind w hc hrd h8 hl d1 n bs' hr hn (ho1 rfl).2
    | false => exact PackOne_0g A c bs kind w hc hrd h8 hl d1 n bs' hr hn _ rfl (ho2 rfl) (enc_len n).1 (hpre _ _ (ho2 rfl))
  have d1 : (kind == 0) = false := beq_eq_false_iff_ne.mpr k0
  by_cases k1 : kind = 1
  · have d2 : (kind == 1) = true := beq_iff_eq.mpr k1
    obtain ⟨⟨n, bs', bad'⟩, hr⟩ : ∃ r, rBool bs false = r := ⟨_, rfl⟩
    obtain ⟨ho1, ho2⟩ := rBool_own bs bs' n bad' h8 hr
    cases bad' with
    | true => exact PackOne_1b A c bs kind w hc hrd h8 hl d1 d2 n bs' hr (ho1 rfl).2
    | false => exact PackOne_1g A c bs kind w hc hrd h8 hl d1 d2 n bs' hr _ rfl (ho2 rfl) (by simp) (hpre _ _ (ho2 rfl))
  have d2 : (kind == 1) = false := beq_eq_false_iff_ne.mpr k1
  obtain ⟨⟨n, bs', bad'⟩, hr⟩ : ∃ r, rText 5000 bs false = r := ⟨_, rfl⟩
  obtain ⟨ho1, ho2, ho3, ho4⟩ := rText_own 5000 bs bs' n bad' h8 hr
  have hn : n.length ≤ 5000 := Nat.le_trans ho4 hl
  cases bad' with
  | true => exact PackOne_2b A c bs kind w hc hrd h8 hl d1 d2 n bs' hr hn (ho1 rfl).2
  | false =>
    have ho2 := (ho2 rfl).1
    have e : enc ((strOfNums n).size : Nat) ++ bytesOf (strOfNums n) = enc (n.length : Int) ++ n := by rw [strOfNums_size, strOf_bytes n ho3]
    exact PackOne_2g A c bs kind w hc hrd h8 hl d1 d2 n bs' hr hn _ rfl (by rw [e]; exact ho2) (by rw [e, List.length_append]; have := (enc_len (n.length : Int)).1; omega) (by rw [e]; exact hpre _ _ ho2)
/-- The bytes of a row of bytes. -/
theorem row_bytes {w : World} {a : Option Addr} {len cap : Nat} {zs : List Int} (h : (a = none ∧ len = 0 ∧ cap = 0 ∧ zs = []) ∨ ∃ x, a = some x ∧ len ≤ cap ∧ cap ≤ maxLen ∧ zs.length = cap ∧ (∀ i, i < zs.length → w.cell? (x.add i) = some (.int .u8 (zs.getD i 0))) ∧ ∀ n ∈ zs, (Lit.int .u8 n).wf = true) :
    ∃ bs : List Int, bs.length = len ∧ len ≤ cap ∧ ReadsInt w .u8 a len bs ∧ Bytes8 bs := by
  rcases h with ⟨rfl, rfl, rfl, rfl⟩ | ⟨x, rfl, h1, h2, h3, h4, h5⟩
  · exact ⟨[], rfl, Nat.le_refl _, ⟨rfl, by omega, fun h => absurd h (Nat.lt_irrefl 0)⟩, fun x hx => nomatch hx⟩
  · have hl : (zs.take len).length = len := by rw [List.length_take]; omega
    refine ⟨zs.take len, hl, h1, ⟨hl, by unfold maxLen at h2; omega, fun _ => ⟨x, rfl, fun j hj => ?_⟩⟩, fun y hy => ?_⟩
    · rw [h4 j (by omega)]
      simp [List.getD, List.getElem?_take, hj]
    · have := h5 y (List.mem_of_mem_take hy)
      simp [Lit.wf, show IntKind.u8.min = 0 from by decide, show IntKind.u8.max = 255 from by decide] at this
      omega
end Go.Proofs.Ytnlbmhojjjjpdaa.Pk
