/- The walk of PackOne (written by gen_packone.py). -/
import Derived.Test.YtnlbmhojjjjpdaaPackH
import Derived.Test.YtnlbmhojjjjpdaaPackQ
namespace Go.Proofs.Ytnlbmhojjjjpdaa.Pk
open Go.RowKit Go.Proofs.YtnlbmhojjjjpdaaW.PrintWords Go.Proofs.YtnlbmhojjjjpdaaW.PrintLast Go.Proofs.YtnlbmhojjjjpdaaW.PrintMore
set_option linter.unusedVariables false
set_option linter.unusedSimpArgs false
/-- A world with its blocks from n on struck: what stands ahead of them alone is looked at. -/
def cutW (w : World) (n : Nat) : World := { w with heap := w.heap.extract 0 n }
theorem cutW_size {w : World} {n : Nat} (h : n ≤ w.heap.size) : (cutW w n).heap.size = n := by unfold cutW; simp [Array.size_extract]; omega
theorem cutW_get {w : World} {n i : Nat} (h : n ≤ w.heap.size) (hi : i < n) : (cutW w n).heap[i]? = w.heap[i]? := by
  unfold cutW
  simp only [Array.getElem?_extract]
  rw [if_pos (by omega)]; congr 1; omega
theorem cutW_below {w : World} {n : Nat} (h : n ≤ w.heap.size) : Below (cutW w n).heap.size (cutW w n) w :=
  ⟨rfl, rfl, rfl, by rw [cutW_size h]; exact h, fun i hi => by rw [cutW_size h] at hi; exact (cutW_get h hi).symm⟩
theorem cutW_block {w w' : World} {n i : Nat} (h : n ≤ w.heap.size) (hB : Below (cutW w n).heap.size (cutW w n) w') (hi : i < n) : w'.heap[i]? = w.heap[i]? :=
  (hB.block i (by rw [cutW_size h]; exact hi)).trans (cutW_get h hi)
theorem cutW_step {W w w' : World} {n : Nat} (h : n ≤ w.heap.size) (hn : W.heap.size ≤ n) (hB : Below W.heap.size W w) (hC : Below (cutW w n).heap.size (cutW w n) w') : Below W.heap.size W w' :=
  ⟨hC.os.trans hB.os, hC.tape.trans hB.tape, hC.output.trans hB.output, by have := hC.size; rw [cutW_size h] at this; omega, fun i hi => (cutW_block h hC (by omega)).trans (hB.block i hi)⟩
theorem cutW_new {w : World} {n : Nat} (h : n ≤ w.heap.size) (hb : w.heap[n]? = some (.cells #[.slice none 0 0] 33 (0, 0))) : IsW (cutW w n) n w [] :=
  ⟨by rw [cutW_size h]; exact Nat.le_refl _, _, hb, own_nil _ _ _ _⟩
theorem strOf_bytes (t : List Int) (h : Bytes8 t) : bytesOf (strOfNums t) = t := by
  unfold bytesOf
  first
    | exact str_bytes t h
    | (rw [ByteArray.toList_eq]; exact str_bytes t h)
theorem wrap_sub {a b : Nat} (h : b ≤ a) (h2 : a < 1000000000) : wrap64 ((a : Int) - (b : Int)) = (a : Int) - (b : Int) := by unfold wrap64; omega
theorem take_own {bs x bs' : List Int} (h : bs = x ++ bs') : bs.take ((bs.length : Int) - (bs'.length : Int)).toNat = x ∧ bs'.length ≤ bs.length ∧ (bs.length : Int) - (bs'.length : Int) = (x.length : Int) := by
  subst h
  have : ((x ++ bs').length : Int) - (bs'.length : Int) = (x.length : Int) := by rw [List.length_append]; omega
  refine ⟨?_, by simp, this⟩
  rw [this, Int.toNat_natCast, List.take_left]
theorem goesW {P : Program} {Q : Exit → Act → World → Prop} {oi : Oper} {a : Act} {w : World} {K : Act → World → Prop} {f : FuncId} {fn : Func} {xs : Array Operand} {ts : Array TypeId} (hf : P.funcs[f]? = some fn) (hname : (fn.name == "runtime.NumGoroutine") = false) (hb : fn.body.isSome = true) (args : Array Value)
    (hop : oi.op = .call { callee := .value (.func f), args := xs, argTypes := ts }) (hargs : xs.map a.eval = args)
    (h : Calls P f args w fun e w' => ∃ v, e = .returned v ∧ K (a.put oi.dst v) w') : Oper.wp P oi a w K Q := by
  have he := enters_ hf hname hb args w
  have hrun : (execOp a.eval oi).run P w = .ok (.enter f args) w := by
    unfold execOp
    simp [hop, resolve, Deferred.ofValue, invoke, Act.eval, hargs, he]
  unfold Oper.wp
  rw [hrun, Oper.upon_enter]
  refine h.mono fun e w'' hh => ?_
  obtain ⟨v, rfl, hk⟩ := hh
  exact hk
theorem lt_of_get {w : World} {g : Nat} {b : _} (h : w.heap[g]? = some b) : g < w.heap.size := by
  rcases Nat.lt_or_ge g w.heap.size with h1 | h1
  · exact h1
  · rw [Array.getElem?_eq_none h1] at h; exact absurd h (by simp)
theorem text_len (n : List Int) (h : n.length ≤ 5000) : (enc ((strOfNums n).size : Nat) ++ bytesOf (strOfNums n)).length < 1000000000 := by
  have := (enc_len ((strOfNums n).size : Nat)).2
  have e2 : (bytesOf (strOfNums n)).length = n.length := by unfold bytesOf; rw [List.length_map, strOfNums_data, List.length_map]
  rw [List.length_append, e2]
  omega
set_option maxHeartbeats 2000000 in
set_option maxRecDepth 100000 in
theorem PackOne_0b (A : Option Addr) (c : Nat) (bs : List Int) (kind : Int) (w : World) (hc : bs.length ≤ c) (hrd : ReadsInt w .u8 A bs.length bs) (h8 : Bytes8 bs) (hl : bs.length ≤ 5000) (d1 : (kind == 0) = true) (n : Int) (bs' : List Int) (hr : rInt bs false = (n, bs', true)) (hn : -9223372036854775808 ≤ n ∧ n ≤ 9223372036854775807) (hsame : bs' = bs) :
    Calls Try.prog 5 #[.slice A bs.length c, .int .i64 kind] w fun e w' => e = .returned (.bool true) ∧ Below w.heap.size w w' := by
  have HU := Aside0.mk (awake_calls w)
  have HR := Aside0.mk hrd
  have HC := Aside0.mk hc
  have H8 := Aside0.mk h8
  have HL := Aside0.mk hl
  have HP := Aside0.mk hr
  have dl : decide ((bs.length : Int) > 5000) = false := decide_eq_false (by omega)
  have HN := Aside0.mk hn
  clear hn
  have de : ((bs'.length : Int) == (bs.length : Int)) = true := by rw [hsame]; simp
  clear hsame
  clear hrd hc h8 hl hr
  go_enter Try.func5, Try.ntmps5
  go_wp2_with (first
    | (go_at_call 15; refine HU.out.mono ?_; rintro e w1 ⟨rfl, hB⟩; have HB1 := Aside0.mk hB; have H1 := Aside0.mk (Pack_Read A c w1 bs HC.out (ReadsInt.below HR.out hB) (Nat.lt_of_le_of_lt HL.out (by decide))); clear hB)
    | (go_at_call 24; refine H1.out.mono ?_; rintro e w2 ⟨g, A2, c2, rfl, hg, hb, hc2, hr2, hfar, hB⟩; have hgs : g < w2.heap.size := lt_of_get hb; have HF2 : Aside0 (∀ ad, A2 = some ad → ad.block ≠ g) := ⟨fun ad e => (hfar ad e).1⟩; have HG : Aside0 (w.heap.size ≤ g ∧ g < w2.heap.size) := ⟨Nat.le_trans HB1.out.size hg, hgs⟩; have HB2 := Aside0.mk (below_alloc (below_step HB1.out hB) (.cells #[.slice none 0 0] 33)); have HA2 := Aside0.mk (heap_alloc_new w2 (.cells #[.slice none 0 0] 33)); have HS2 : Aside0 (w2.heap.size < (w2.alloc (.cells #[.slice none 0 0] 33)).heap.size) := ⟨lt_of_get HA2.out⟩; have H2 := Aside0.mk (Reader_Int g A2 c2 (w2.alloc (.cells #[.slice none 0 0] 33)) bs false (((below_alloc (Below.refl _ w2) _).block g hgs).trans hb) hc2 (ReadsInt.below hr2 (below_alloc (Below.refl _ w2) _)) HF2.out H8.out (Nat.lt_of_le_of_lt HL.out (by decide)) n bs' true HP.out); clear hg hb hc2 hr2 hfar hB hgs)
    | (go_at_call 25; refine H2.out.mono ?_; rintro e w4 ⟨rfl, A4, c4, q1, q2, q3, q4, q5⟩; have HS4 : Aside0 (w2.heap.size ≤ w4.heap.size) := ⟨Nat.le_trans (Nat.le_of_lt HS2.out) q5.2.size⟩; have hk := (q5.1.2 w2.heap.size HS2.out (Nat.ne_of_gt HG.out.2) (by simp)).trans HA2.out; have HB4 := Aside0.mk (below_keep HB2.out HG.out.1 q5); have HQ4 := Aside0.mk q1; have H3 := Aside0.mk (Writer_Int w2.heap.size (cutW w4 w2.heap.size) w4 [] n (cutW_below HS4.out) (cutW_new HS4.out hk) (by simp) HN.out.1 HN.out.2); clear q1 q2 q3 q4 q5 hk)
    | (go_at_call 20; refine H3.out.mono ?_; rintro e w5 ⟨rfl, hI, hB⟩; simp only [List.nil_append] at hI; have HI5 := Aside0.mk hI; have HB5 := Aside0.mk (cutW_step HS4.out (Nat.le_trans HG.out.1 (Nat.le_of_lt HG.out.2)) HB4.out hB); have HG5 := Aside0.mk ((cutW_block HS4.out hB HG.out.2).trans HQ4.out); have HE := Aside0.mk (Reader_Err g A4 c4 w5 bs' true HG5.out); have HL5 := Aside0.mk (fun nd => Reader_Left g A4 c4 (w5.drewN nd) bs' true HG5.out); clear hI hB)
    | (go_at_call 30; refine HE.out.mono ?_; rintro e w6 ⟨rfl, ⟨nd, rfl⟩⟩)
    | (go_at_call 31; refine (HL5.out _).mono ?_; rintro e w7 ⟨rfl, ⟨nd2, rfl⟩⟩))
  go_ret
  exact ⟨by first | rfl | (simp [de]; done), by first | exact HB5.out | exact pw_below_drewN HB5.out _ | exact pw_below_drewN (pw_below_drewN HB5.out _) _⟩
set_option maxHeartbeats 2000000 in
set_option maxRecDepth 100000 in
theorem PackOne_0g (A : Option Addr) (c : Nat) (bs : List Int) (kind : Int) (w : World) (hc : bs.length ≤ c) (hrd : ReadsInt w .u8 A bs.length bs) (h8 : Bytes8 bs) (hl : bs.length ≤ 5000) (d1 : (kind == 0) = true) (n : Int) (bs' : List Int) (hr : rInt bs false = (n, bs', false)) (hn : -9223372036854775808 ≤ n ∧ n ≤ 9223372036854775807) (x : List Int) (hx : x = enc n) (howt : bs = x ++ bs') (hpos : 0 < x.length) (hby : Bytes8 x) :
    Calls Try.prog 5 #[.slice A bs.length c, .int .i64 kind] w fun e w' => e = .returned (.bool true) ∧ Below w.heap.size w w' := by
  have HU := Aside0.mk (awake_calls w)
  have HR := Aside0.mk hrd
  have HC := Aside0.mk hc
  have H8 := Aside0.mk h8
  have HL := Aside0.mk hl
  have HP := Aside0.mk hr
  have dl : decide ((bs.length : Int) > 5000) = false := decide_eq_false (by omega)
  have HN := Aside0.mk hn
  clear hn
  obtain ⟨ht, hle, hdf⟩ := take_own howt
  have dw : wrap64 ((bs.length : Int) - (bs'.length : Int)) = (bs.length : Int) - (bs'.length : Int) := wrap_sub hle (by omega)
  have dp : decide (wrap64 ((bs.length : Int) - (bs'.length : Int)) > 0) = true := decide_eq_true (by omega)
  have dp2 : decide (wrap64 ((bs.length : Int) - (bs'.length : Int)) ≤ (bs.length : Int)) = true := decide_eq_true (by omega)
  obtain ⟨i, hi, hz0, hz1, hz2⟩ := info_parts info5
  have hT := (print_take_int (k := .u8) 25 5 Try.underlying25 hi hz1 A c bs (wrap64 ((bs.length : Int) - (bs'.length : Int))) (by omega) (by omega) hc).1
  have HRT := Aside0.mk (fun w2 (h : ReadsInt w2 .u8 A bs.length bs) => reads_take2 (v := (bs.length : Int) - (bs'.length : Int)) (by omega) (by omega) h)
  rw [show (wrap64 ((bs.length : Int) - (bs'.length : Int))).toNat = ((bs.length : Int) - (bs'.length : Int)).toNat from by rw [dw]] at hT
  clear dw
  rw [ht] at hT
  rw [ht] at HRT
  have HBY := Aside0.mk hby
  have HX := Aside0.mk hx
  clear hi hz0 hz1 hz2 howt hpos ht hle hdf hby hx
  clear hrd hc h8 hl hr
  go_enter Try.func5, Try.ntmps5
  go_wp2_with (first
    | (go_at_call 15; refine HU.out.mono ?_; rintro e w1 ⟨rfl, hB⟩; have HB1 := Aside0.mk hB; have H1 := Aside0.mk (Pack_Read A c w1 bs HC.out (ReadsInt.below HR.out hB) (Nat.lt_of_le_of_lt HL.out (by decide))); clear hB)
    | (go_at_call 24; refine H1.out.mono ?_; rintro e w2 ⟨g, A2, c2, rfl, hg, hb, hc2, hr2, hfar, hB⟩; have hgs : g < w2.heap.size := lt_of_get hb; have HF2 : Aside0 (∀ ad, A2 = some ad → ad.block ≠ g) := ⟨fun ad e => (hfar ad e).1⟩; have HG : Aside0 (w.heap.size ≤ g ∧ g < w2.heap.size) := ⟨Nat.le_trans HB1.out.size hg, hgs⟩; have HB2 := Aside0.mk (below_alloc (below_step HB1.out hB) (.cells #[.slice none 0 0] 33)); have HA2 := Aside0.mk (heap_alloc_new w2 (.cells #[.slice none 0 0] 33)); have HS2 : Aside0 (w2.heap.size < (w2.alloc (.cells #[.slice none 0 0] 33)).heap.size) := ⟨lt_of_get HA2.out⟩; have H2 := Aside0.mk (Reader_Int g A2 c2 (w2.alloc (.cells #[.slice none 0 0] 33)) bs false (((below_alloc (Below.refl _ w2) _).block g hgs).trans hb) hc2 (ReadsInt.below hr2 (below_alloc (Below.refl _ w2) _)) HF2.out H8.out (Nat.lt_of_le_of_lt HL.out (by decide)) n bs' false HP.out); clear hg hb hc2 hr2 hfar hB hgs)
    | (go_at_call 25; refine H2.out.mono ?_; rintro e w4 ⟨rfl, A4, c4, q1, q2, q3, q4, q5⟩; have HS4 : Aside0 (w2.heap.size ≤ w4.heap.size) := ⟨Nat.le_trans (Nat.le_of_lt HS2.out) q5.2.size⟩; have hk := (q5.1.2 w2.heap.size HS2.out (Nat.ne_of_gt HG.out.2) (by simp)).trans HA2.out; have HB4 := Aside0.mk (below_keep HB2.out HG.out.1 q5); have HQ4 := Aside0.mk q1; have H3 := Aside0.mk (Writer_Int w2.heap.size (cutW w4 w2.heap.size) w4 [] n (cutW_below HS4.out) (cutW_new HS4.out hk) (by simp) HN.out.1 HN.out.2); clear q1 q2 q3 q4 q5 hk)
    | (go_at_call 20; refine H3.out.mono ?_; rintro e w5 ⟨rfl, hI, hB⟩; simp only [List.nil_append] at hI; rw [← HX.out] at hI; have HI5 := Aside0.mk hI; have HB5 := Aside0.mk (cutW_step HS4.out (Nat.le_trans HG.out.1 (Nat.le_of_lt HG.out.2)) HB4.out hB); have HG5 := Aside0.mk ((cutW_block HS4.out hB HG.out.2).trans HQ4.out); have HE := Aside0.mk (Reader_Err g A4 c4 w5 bs' false HG5.out); have HL5 := Aside0.mk (fun nd => Reader_Left g A4 c4 (w5.drewN nd) bs' false HG5.out); have HR5 := Aside0.mk (HRT.out _ (ReadsInt.below HR.out HB5.out)); have HBY5 := Aside0.mk (fun nd => Writer_Bytes w2.heap.size (cutW w4 w2.heap.size) (w5.drewN nd) x (hI.drewN nd) (by rw [HX.out]; exact (Nat.lt_of_le_of_lt (enc_len n).2 (by decide)))); clear hI hB)
    | (go_at_call 30; refine HE.out.mono ?_; rintro e w6 ⟨rfl, ⟨nd, rfl⟩⟩)
    | (go_at_call 31; refine (HL5.out _).mono ?_; rintro e w7 ⟨rfl, ⟨nd2, rfl⟩⟩; have cyw := string_of_reads (w := w5.drewN (nd + nd2 + 1)) (c := c) (dst := 9) Try.underlying25 Try.underlying5 Try.underlying9 HR5.out))
  refine start_ (n := 19) (S := fun w' => ReadsInt w' .u8 A x.length x) (ds := []) #[false, false, false, false, false, false, false, false, false, false, false, false, false, false, false, false, false, false, false] (by kernel_rfl) rfl rfl HR5.out (fun hHeld => ?_)
  refine pure_ (i := 0) (N := some 54) (v := ?_) (a' := ?_) #[true, false, false, false, false, false, false, false, false, false, false, false, false, false, false, false, false, false, false] rfl rfl (by kernel_rfl) (fun _ _ _ h => h) (Or.inl ⟨by rfl, ?_⟩) ?_ ?_
  rotate_left
  · intro w'
    go_simp
    with_reducible rfl
  rotate_left
  · simp only [Act.put, List.setIfInBounds_toArray, List.set_cons_zero, List.set_cons_succ, i64_w, i32_w]
    rfl
  refine pure_ (i := 1) (N := some 55) (v := ?_) (a' := ?_) #[true, true, false, false, false, false, false, false, false, false, false, false, false, false, false, false, false, false, false] rfl rfl (by kernel_rfl) (fun _ _ _ h => h) (Or.inl ⟨by rfl, ?_⟩) ?_ ?_
  rotate_left
  · intro w'
    go_simp
    with_reducible rfl
  rotate_left
  · simp only [Act.put, List.setIfInBounds_toArray, List.set_cons_zero, List.set_cons_succ, i64_w, i32_w]
    rfl
  refine pure_ (i := 2) (N := some 56) (v := ?_) (a' := ?_) #[true, true, true, false, false, false, false, false, false, false, false, false, false, false, false, false, false, false, false] rfl rfl (by kernel_rfl) (fun _ _ _ h => h) (Or.inl ⟨by rfl, ?_⟩) ?_ ?_
  rotate_left
  · intro w'
    go_simp
    with_reducible rfl
  rotate_left
  · simp only [Act.put, List.setIfInBounds_toArray, List.set_cons_zero, List.set_cons_succ, i64_w, i32_w]
    rfl
  refine pure_ (i := 3) (N := some 57) (v := ?_) (a' := ?_) #[true, true, true, true, false, false, false, false, false, false, false, false, false, false, false, false, false, false, false] rfl rfl (by kernel_rfl) (fun _ _ _ h => h) (Or.inl ⟨by rfl, ?_⟩) ?_ ?_
  rotate_left
  · intro w'
    go_simp
    with_reducible rfl
  rotate_left
  · simp only [Act.put, List.setIfInBounds_toArray, List.set_cons_zero, List.set_cons_succ, i64_w, i32_w]
    rfl
  refine pure_ (i := 4) (N := some 58) (v := ?_) (a' := ?_) #[true, true, true, true, true, false, false, false, false, false, false, false, false, false, false, false, false, false, false] rfl rfl (by kernel_rfl) (fun _ _ _ h => h) (Or.inl ⟨by rfl, ?_⟩) ?_ ?_
  rotate_left
  · intro w'
    go_simp
    with_reducible rfl
  rotate_left
  · simp only [Act.put, List.setIfInBounds_toArray, List.set_cons_zero, List.set_cons_succ, i64_w, i32_w]
    rfl
  refine pure_ (i := 5) (N := some 59) (v := ?_) (a' := ?_) #[true, true, true, true, true, true, false, false, false, false, false, false, false, false, false, false, false, false, false] rfl rfl (by kernel_rfl) (fun _ _ _ h => h) (Or.inl ⟨by rfl, ?_⟩) ?_ ?_
  rotate_left
  · intro w'
    go_simp
    with_reducible rfl
  rotate_left
  · simp only [Act.put, List.setIfInBounds_toArray, List.set_cons_zero, List.set_cons_succ, i64_w, i32_w]
    rfl
  refine pure_ (i := 6) (N := some 60) (v := ?_) (a' := ?_) #[true, true, true, true, true, true, true, false, false, false, false, false, false, false, false, false, false, false, false] rfl rfl (by kernel_rfl) (fun _ _ _ h => h) (Or.inl ⟨by rfl, ?_⟩) ?_ ?_
  rotate_left
  · intro w'
    go_simp
    with_reducible rfl
  rotate_left
  · simp only [Act.put, List.setIfInBounds_toArray, List.set_cons_zero, List.set_cons_succ, i64_w, i32_w]
    rfl
  refine pure_ (i := 7) (N := some 61) (v := ?_) (a' := ?_) #[true, true, true, true, true, true, true, true, false, false, false, false, false, false, false, false, false, false, false] rfl rfl (by kernel_rfl) (fun _ _ _ h => h) (Or.inl ⟨by rfl, ?_⟩) ?_ ?_
  rotate_left
  · intro w'
    go_simp
    with_reducible rfl
  rotate_left
  · simp only [Act.put, List.setIfInBounds_toArray, List.set_cons_zero, List.set_cons_succ, i64_w, i32_w]
    rfl
  refine pure_ (i := 8) (N := some 62) (v := ?_) (a' := ?_) #[true, true, true, true, true, true, true, true, true, false, false, false, false, false, false, false, false, false, false] rfl rfl (by kernel_rfl) (fun _ _ _ h => h) (Or.inl ⟨by rfl, ?_⟩) ?_ ?_
  rotate_left
  · intro w'
    go_simp
    with_reducible rfl
  rotate_left
  · simp only [Act.put, List.setIfInBounds_toArray, List.set_cons_zero, List.set_cons_succ, i64_w, i32_w]
    rfl
  refine pure_ (i := 9) (N := some 63) (v := ?_) (a' := ?_) #[true, true, true, true, true, true, true, true, true, true, false, false, false, false, false, false, false, false, false] rfl rfl (by kernel_rfl) (fun _ _ _ h => h) (Or.inl ⟨by rfl, ?_⟩) ?_ ?_
  rotate_left
  · intro w'
    go_simp
    with_reducible rfl
  rotate_left
  · simp only [Act.put, List.setIfInBounds_toArray, List.set_cons_zero, List.set_cons_succ, i64_w, i32_w]
    rfl
  refine pure_ (i := 12) (N := some 66) (v := ?_) (a' := ?_) #[true, true, true, true, true, true, true, true, true, true, false, false, true, false, false, false, false, false, false] rfl rfl (by kernel_rfl) (fun _ _ _ h => h) (Or.inl ⟨by rfl, ?_⟩) ?_ ?_
  rotate_left
  · intro w'
    go_simp
    with_reducible rfl
  rotate_left
  · simp only [Act.put, List.setIfInBounds_toArray, List.set_cons_zero, List.set_cons_succ, i64_w, i32_w]
    rfl
  refine pure_ (i := 13) (N := some 67) (v := ?_) (a' := ?_) #[true, true, true, true, true, true, true, true, true, true, false, false, true, true, false, false, false, false, false] rfl rfl (by kernel_rfl) (fun _ _ _ h => h) (Or.inl ⟨by rfl, ?_⟩) ?_ ?_
  rotate_left
  · intro w'
    go_simp
    with_reducible rfl
  rotate_left
  · simp only [Act.put, List.setIfInBounds_toArray, List.set_cons_zero, List.set_cons_succ, i64_w, i32_w]
    rfl
  refine pure_ (i := 14) (N := some 68) (v := ?_) (a' := ?_) #[true, true, true, true, true, true, true, true, true, true, false, false, true, true, true, false, false, false, false] rfl rfl (by kernel_rfl) (fun _ _ _ h => h) (Or.inl ⟨by rfl, ?_⟩) ?_ ?_
  rotate_left
  · intro w'
    have hTw := hT w'
    go_simp
    with_reducible rfl
  rotate_left
  · simp only [Act.put, List.setIfInBounds_toArray, List.set_cons_zero, List.set_cons_succ, i64_w, i32_w]
    rfl
  refine take_ (i := 15) (N := some 69) (v := ?_) (a' := ?_) #[true, true, true, true, true, true, true, true, true, true, false, false, true, true, true, true, false, false, false] rfl rfl (by kernel_rfl) (fun _ _ _ h => h) (Or.inl ⟨by rfl, ?_⟩) hHeld ?_ ?_
  rotate_left
  · intro w' s0
    have cw := string_of_reads (c := c) (dst := 9) Try.underlying25 Try.underlying5 Try.underlying9 s0
    go_simp
    with_reducible rfl
  rotate_left
  · simp only [Act.put, List.setIfInBounds_toArray, List.set_cons_zero, List.set_cons_succ, i64_w, i32_w]
    rfl
  refine one_ (i := 10) (N := some 64) #[true, true, true, true, true, true, true, true, true, true, true, false, true, true, true, true, false, false, false] rfl rfl (by kernel_rfl) (by decide) (fun K hK => ?_)
  refine goes_ Try.func21 (by kernel_rfl) rfl #[.pointer (some ⟨w2.heap.size, 0, none⟩)] (by rfl) rfl rfl (by (try simp only [List.map_toArray, List.map_cons, List.map_nil]); first | done | rfl) ?_
  refine (HBY5.out (nd + nd2 + 1)).mono ?_
  rintro e w8 ⟨v, rfl, hown, hB⟩
  obtain ⟨A8, c8, rfl, hc8, hr8⟩ := own_slice_le hown
  have HB8 := Aside0.mk (below_step (pw_below_drewN HB5.out _) hB)
  have hS8 := HRT.out _ (ReadsInt.below HR.out HB8.out)
  have HR8 := Aside0.mk hr8
  clear hown hB hr8 hc8
  refine ⟨_, rfl, ?_⟩
  refine hK.out _ _ hS8 (fun hHeld => ?_)
  clear hK K
  refine norm_ (a' := ?_) ?_ ?_
  rotate_left
  · show Act.put _ (some 64) _ = _
    simp only [Act.put, List.setIfInBounds_toArray, List.set_cons_zero, List.set_cons_succ, i64_w, i32_w]
    rfl
  refine one_ (i := 11) (N := some 65) #[true, true, true, true, true, true, true, true, true, true, true, true, true, true, true, true, false, false, false] rfl rfl (by kernel_rfl) (by decide) (fun K hK => ?_)
  refine value_ (v := .string (strOfNums x)) (by rfl) rfl (by have cw := string_of_reads (c := c8) (dst := 9) Try.underlying25 Try.underlying5 Try.underlying9 HR8.out; go_simp; with_reducible rfl) ?_
  refine hK.out _ _ hHeld (fun hHeld => ?_)
  clear hK K
  refine norm_ (a' := ?_) ?_ ?_
  rotate_left
  · show Act.put _ (some 65) _ = _
    simp only [Act.put, List.setIfInBounds_toArray, List.set_cons_zero, List.set_cons_succ, i64_w, i32_w]
    rfl
  refine pure_ (i := 16) (N := some 70) (v := ?_) (a' := ?_) #[true, true, true, true, true, true, true, true, true, true, true, true, true, true, true, true, true, false, false] rfl rfl (by kernel_rfl) (fun _ _ _ h => h) (Or.inl ⟨by rfl, ?_⟩) ?_ ?_
  rotate_left
  · intro w'
    go_simp
    with_reducible rfl
  rotate_left
  · simp only [Act.put, List.setIfInBounds_toArray, List.set_cons_zero, List.set_cons_succ, i64_w, i32_w]
    rfl
  refine pure_ (i := 17) (N := some 71) (v := ?_) (a' := ?_) #[true, true, true, true, true, true, true, true, true, true, true, true, true, true, true, true, true, true, false] rfl rfl (by kernel_rfl) (fun _ _ _ h => h) (Or.inl ⟨by rfl, ?_⟩) ?_ ?_
  rotate_left
  · intro w'
    go_simp
    with_reducible rfl
  rotate_left
  · simp only [Act.put, List.setIfInBounds_toArray, List.set_cons_zero, List.set_cons_succ, i64_w, i32_w]
    rfl
  refine pure_ (i := 18) (N := some 4) (v := ?_) (a' := ?_) #[true, true, true, true, true, true, true, true, true, true, true, true, true, true, true, true, true, true, true] rfl rfl (by kernel_rfl) (fun _ _ _ h => h) (Or.inl ⟨by rfl, ?_⟩) ?_ ?_
  rotate_left
  · intro w'
    go_simp
    with_reducible rfl
  rotate_left
  · simp only [Act.put, List.setIfInBounds_toArray, List.set_cons_zero, List.set_cons_succ, i64_w, i32_w]
    rfl
  refine done_ (by kernel_rfl) ?_
  all_goals go_wp2
  all_goals go_ret
  all_goals exact ⟨by first | rfl | (simp; done), by first | exact HB8.out | exact pw_below_drewN HB8.out _ | exact pw_below_drewN (pw_below_drewN HB8.out _) _⟩
set_option maxHeartbeats 2000000 in
set_option maxRecDepth 100000 in
theorem PackOne_1b (A : Option Addr) (c : Nat) (bs : List Int) (kind : Int) (w : World) (hc : bs.length ≤ c) (hrd : ReadsInt w .u8 A bs.length bs) (h8 : Bytes8 bs) (hl : bs.length ≤ 5000) (d1 : (kind == 0) = false) (d2 : (kind == 1) = true) (n : Bool) (bs' : List Int) (hr : rBool bs false = (n, bs', true)) (hsame : bs' = bs) :
    Calls Try.prog 5 #[.slice A bs.length c, .int .i64 kind] w fun e w' => e = .returned (.bool true) ∧ Below w.heap.size w w' := by
  have HU := Aside0.mk (awake_calls w)
  have HR := Aside0.mk hrd
  have HC := Aside0.mk hc
  have H8 := Aside0.mk h8
  have HL := Aside0.mk hl
  have HP := Aside0.mk hr
  have dl : decide ((bs.length : Int) > 5000) = false := decide_eq_false (by omega)
  have de : ((bs'.length : Int) == (bs.length : Int)) = true := by rw [hsame]; simp
  clear hsame
  clear hrd hc h8 hl hr
  go_enter Try.func5, Try.ntmps5
  go_wp2_with (first
    | (go_at_call 15; refine HU.out.mono ?_; rintro e w1 ⟨rfl, hB⟩; have HB1 := Aside0.mk hB; have H1 := Aside0.mk (Pack_Read A c w1 bs HC.out (ReadsInt.below HR.out hB) (Nat.lt_of_le_of_lt HL.out (by decide))); clear hB)
    | (go_at_call 24; refine H1.out.mono ?_; rintro e w2 ⟨g, A2, c2, rfl, hg, hb, hc2, hr2, hfar, hB⟩; have hgs : g < w2.heap.size := lt_of_get hb; have HF2 : Aside0 (∀ ad, A2 = some ad → ad.block ≠ g) := ⟨fun ad e => (hfar ad e).1⟩; have HG : Aside0 (w.heap.size ≤ g ∧ g < w2.heap.size) := ⟨Nat.le_trans HB1.out.size hg, hgs⟩; have HB2 := Aside0.mk (below_alloc (below_step HB1.out hB) (.cells #[.slice none 0 0] 33)); have HA2 := Aside0.mk (heap_alloc_new w2 (.cells #[.slice none 0 0] 33)); have HS2 : Aside0 (w2.heap.size < (w2.alloc (.cells #[.slice none 0 0] 33)).heap.size) := ⟨lt_of_get HA2.out⟩; have H2 := Aside0.mk (Reader_Bool g A2 c2 (w2.alloc (.cells #[.slice none 0 0] 33)) bs false (((below_alloc (Below.refl _ w2) _).block g hgs).trans hb) hc2 (ReadsInt.below hr2 (below_alloc (Below.refl _ w2) _)) HF2.out H8.out (Nat.lt_of_le_of_lt HL.out (by decide)) n bs' true HP.out); clear hg hb hc2 hr2 hfar hB hgs)
    | (go_at_call 27; refine H2.out.mono ?_; rintro e w4 ⟨rfl, A4, c4, q1, q2, q3, q4, q5⟩; have HS4 : Aside0 (w2.heap.size ≤ w4.heap.size) := ⟨Nat.le_trans (Nat.le_of_lt HS2.out) q5.2.size⟩; have hk := (q5.1.2 w2.heap.size HS2.out (Nat.ne_of_gt HG.out.2) (by simp)).trans HA2.out; have HB4 := Aside0.mk (below_keep HB2.out HG.out.1 q5); have HQ4 := Aside0.mk q1; have H3 := Aside0.mk (Writer_Bool w2.heap.size (cutW w4 w2.heap.size) w4 [] n (cutW_below HS4.out) (cutW_new HS4.out hk) (by simp)); clear q1 q2 q3 q4 q5 hk)
    | (go_at_call 26; refine H3.out.mono ?_; rintro e w5 ⟨rfl, hI, hB⟩; simp only [List.nil_append] at hI; have HI5 := Aside0.mk hI; have HB5 := Aside0.mk (cutW_step HS4.out (Nat.le_trans HG.out.1 (Nat.le_of_lt HG.out.2)) HB4.out hB); have HG5 := Aside0.mk ((cutW_block HS4.out hB HG.out.2).trans HQ4.out); have HE := Aside0.mk (Reader_Err g A4 c4 w5 bs' true HG5.out); have HL5 := Aside0.mk (fun nd => Reader_Left g A4 c4 (w5.drewN nd) bs' true HG5.out); clear hI hB)
    | (go_at_call 30; refine HE.out.mono ?_; rintro e w6 ⟨rfl, ⟨nd, rfl⟩⟩)
    | (go_at_call 31; refine (HL5.out _).mono ?_; rintro e w7 ⟨rfl, ⟨nd2, rfl⟩⟩))
  go_ret
  exact ⟨by first | rfl | (simp [de]; done), by first | exact HB5.out | exact pw_below_drewN HB5.out _ | exact pw_below_drewN (pw_below_drewN HB5.out _) _⟩
set_option maxHeartbeats 2000000 in
set_option maxRecDepth 100000 in
theorem PackOne_1g (A : Option Addr) (c : Nat) (bs : List Int) (kind : Int) (w : World) (hc : bs.length ≤ c) (hrd : ReadsInt w .u8 A bs.length bs) (h8 : Bytes8 bs) (hl : bs.length ≤ 5000) (d1 : (kind == 0) = false) (d2 : (kind == 1) = true) (n : Bool) (bs' : List Int) (hr : rBool bs false = (n, bs', false)) (x : List Int) (hx : x = [bitI n]) (howt : bs = x ++ bs') (hpos : 0 < x.length) (hby : Bytes8 x) :
    Calls Try.prog 5 #[.slice A bs.length c, .int .i64 kind] w fun e w' => e = .returned (.bool true) ∧ Below w.heap.size w w' := by
  have HU := Aside0.mk (awake_calls w)
  have HR := Aside0.mk hrd
  have HC := Aside0.mk hc
  have H8 := Aside0.mk h8
  have HL := Aside0.mk hl
  have HP := Aside0.mk hr
  have dl : decide ((bs.length : Int) > 5000) = false := decide_eq_false (by omega)
  obtain ⟨ht, hle, hdf⟩ := take_own howt
  have dw : wrap64 ((bs.length : Int) - (bs'.length : Int)) = (bs.length : Int) - (bs'.length : Int) := wrap_sub hle (by omega)
  have dp : decide (wrap64 ((bs.length : Int) - (bs'.length : Int)) > 0) = true := decide_eq_true (by omega)
  have dp2 : decide (wrap64 ((bs.length : Int) - (bs'.length : Int)) ≤ (bs.length : Int)) = true := decide_eq_true (by omega)
  obtain ⟨i, hi, hz0, hz1, hz2⟩ := info_parts info5
  have hT := (print_take_int (k := .u8) 25 5 Try.underlying25 hi hz1 A c bs (wrap64 ((bs.length : Int) - (bs'.length : Int))) (by omega) (by omega) hc).1
  have HRT := Aside0.mk (fun w2 (h : ReadsInt w2 .u8 A bs.length bs) => reads_take2 (v := (bs.length : Int) - (bs'.length : Int)) (by omega) (by omega) h)
  rw [show (wrap64 ((bs.length : Int) - (bs'.length : Int))).toNat = ((bs.length : Int) - (bs'.length : Int)).toNat from by rw [dw]] at hT
  clear dw
  rw [ht] at hT
  rw [ht] at HRT
  have HBY := Aside0.mk hby
  have HX := Aside0.mk hx
  clear hi hz0 hz1 hz2 howt hpos ht hle hdf hby hx
  clear hrd hc h8 hl hr
  go_enter Try.func5, Try.ntmps5
  go_wp2_with (first
    | (go_at_call 15; refine HU.out.mono ?_; rintro e w1 ⟨rfl, hB⟩; have HB1 := Aside0.mk hB; have H1 := Aside0.mk (Pack_Read A c w1 bs HC.out (ReadsInt.below HR.out hB) (Nat.lt_of_le_of_lt HL.out (by decide))); clear hB)
    | (go_at_call 24; refine H1.out.mono ?_; rintro e w2 ⟨g, A2, c2, rfl, hg, hb, hc2, hr2, hfar, hB⟩; have hgs : g < w2.heap.size := lt_of_get hb; have HF2 : Aside0 (∀ ad, A2 = some ad → ad.block ≠ g) := ⟨fun ad e => (hfar ad e).1⟩; have HG : Aside0 (w.heap.size ≤ g ∧ g < w2.heap.size) := ⟨Nat.le_trans HB1.out.size hg, hgs⟩; have HB2 := Aside0.mk (below_alloc (below_step HB1.out hB) (.cells #[.slice none 0 0] 33)); have HA2 := Aside0.mk (heap_alloc_new w2 (.cells #[.slice none 0 0] 33)); have HS2 : Aside0 (w2.heap.size < (w2.alloc (.cells #[.slice none 0 0] 33)).heap.size) := ⟨lt_of_get HA2.out⟩; have H2 := Aside0.mk (Reader_Bool g A2 c2 (w2.alloc (.cells #[.slice none 0 0] 33)) bs false (((below_alloc (Below.refl _ w2) _).block g hgs).trans hb) hc2 (ReadsInt.below hr2 (below_alloc (Below.refl _ w2) _)) HF2.out H8.out (Nat.lt_of_le_of_lt HL.out (by decide)) n bs' false HP.out); clear hg hb hc2 hr2 hfar hB hgs)
    | (go_at_call 27; refine H2.out.mono ?_; rintro e w4 ⟨rfl, A4, c4, q1, q2, q3, q4, q5⟩; have HS4 : Aside0 (w2.heap.size ≤ w4.heap.size) := ⟨Nat.le_trans (Nat.le_of_lt HS2.out) q5.2.size⟩; have hk := (q5.1.2 w2.heap.size HS2.out (Nat.ne_of_gt HG.out.2) (by simp)).trans HA2.out; have HB4 := Aside0.mk (below_keep HB2.out HG.out.1 q5); have HQ4 := Aside0.mk q1; have H3 := Aside0.mk (Writer_Bool w2.heap.size (cutW w4 w2.heap.size) w4 [] n (cutW_below HS4.out) (cutW_new HS4.out hk) (by simp)); clear q1 q2 q3 q4 q5 hk)
    | (go_at_call 26; refine H3.out.mono ?_; rintro e w5 ⟨rfl, hI, hB⟩; simp only [List.nil_append] at hI; rw [← HX.out] at hI; have HI5 := Aside0.mk hI; have HB5 := Aside0.mk (cutW_step HS4.out (Nat.le_trans HG.out.1 (Nat.le_of_lt HG.out.2)) HB4.out hB); have HG5 := Aside0.mk ((cutW_block HS4.out hB HG.out.2).trans HQ4.out); have HE := Aside0.mk (Reader_Err g A4 c4 w5 bs' false HG5.out); have HL5 := Aside0.mk (fun nd => Reader_Left g A4 c4 (w5.drewN nd) bs' false HG5.out); have HR5 := Aside0.mk (HRT.out _ (ReadsInt.below HR.out HB5.out)); have HBY5 := Aside0.mk (fun nd => Writer_Bytes w2.heap.size (cutW w4 w2.heap.size) (w5.drewN nd) x (hI.drewN nd) (by rw [HX.out]; exact (by simp))); clear hI hB)
    | (go_at_call 30; refine HE.out.mono ?_; rintro e w6 ⟨rfl, ⟨nd, rfl⟩⟩)
    | (go_at_call 31; refine (HL5.out _).mono ?_; rintro e w7 ⟨rfl, ⟨nd2, rfl⟩⟩; have cyw := string_of_reads (w := w5.drewN (nd + nd2 + 1)) (c := c) (dst := 9) Try.underlying25 Try.underlying5 Try.underlying9 HR5.out))
  refine start_ (n := 19) (S := fun w' => ReadsInt w' .u8 A x.length x) (ds := []) #[false, false, false, false, false, false, false, false, false, false, false, false, false, false, false, false, false, false, false] (by kernel_rfl) rfl rfl HR5.out (fun hHeld => ?_)
  refine pure_ (i := 0) (N := some 54) (v := ?_) (a' := ?_) #[true, false, false, false, false, false, false, false, false, false, false, false, false, false, false, false, false, false, false] rfl rfl (by kernel_rfl) (fun _ _ _ h => h) (Or.inl ⟨by rfl, ?_⟩) ?_ ?_
  rotate_left
  · intro w'
    go_simp
    with_reducible rfl
  rotate_left
  · simp only [Act.put, List.setIfInBounds_toArray, List.set_cons_zero, List.set_cons_succ, i64_w, i32_w]
    rfl
  refine pure_ (i := 1) (N := some 55) (v := ?_) (a' := ?_) #[true, true, false, false, false, false, false, false, false, false, false, false, false, false, false, false, false, false, false] rfl rfl (by kernel_rfl) (fun _ _ _ h => h) (Or.inl ⟨by rfl, ?_⟩) ?_ ?_
  rotate_left
  · intro w'
    go_simp
    with_reducible rfl
  rotate_left
  · simp only [Act.put, List.setIfInBounds_toArray, List.set_cons_zero, List.set_cons_succ, i64_w, i32_w]
    rfl
  refine pure_ (i := 2) (N := some 56) (v := ?_) (a' := ?_) #[true, true, true, false, false, false, false, false, false, false, false, false, false, false, false, false, false, false, false] rfl rfl (by kernel_rfl) (fun _ _ _ h => h) (Or.inl ⟨by rfl, ?_⟩) ?_ ?_
  rotate_left
  · intro w'
    go_simp
    with_reducible rfl
  rotate_left
  · simp only [Act.put, List.setIfInBounds_toArray, List.set_cons_zero, List.set_cons_succ, i64_w, i32_w]
    rfl
  refine pure_ (i := 3) (N := some 57) (v := ?_) (a' := ?_) #[true, true, true, true, false, false, false, false, false, false, false, false, false, false, false, false, false, false, false] rfl rfl (by kernel_rfl) (fun _ _ _ h => h) (Or.inl ⟨by rfl, ?_⟩) ?_ ?_
  rotate_left
  · intro w'
    go_simp
    with_reducible rfl
  rotate_left
  · simp only [Act.put, List.setIfInBounds_toArray, List.set_cons_zero, List.set_cons_succ, i64_w, i32_w]
    rfl
  refine pure_ (i := 4) (N := some 58) (v := ?_) (a' := ?_) #[true, true, true, true, true, false, false, false, false, false, false, false, false, false, false, false, false, false, false] rfl rfl (by kernel_rfl) (fun _ _ _ h => h) (Or.inl ⟨by rfl, ?_⟩) ?_ ?_
  rotate_left
  · intro w'
    go_simp
    with_reducible rfl
  rotate_left
  · simp only [Act.put, List.setIfInBounds_toArray, List.set_cons_zero, List.set_cons_succ, i64_w, i32_w]
    rfl
  refine pure_ (i := 5) (N := some 59) (v := ?_) (a' := ?_) #[true, true, true, true, true, true, false, false, false, false, false, false, false, false, false, false, false, false, false] rfl rfl (by kernel_rfl) (fun _ _ _ h => h) (Or.inl ⟨by rfl, ?_⟩) ?_ ?_
  rotate_left
  · intro w'
    go_simp
    with_reducible rfl
  rotate_left
  · simp only [Act.put, List.setIfInBounds_toArray, List.set_cons_zero, List.set_cons_succ, i64_w, i32_w]
    rfl
  refine pure_ (i := 6) (N := some 60) (v := ?_) (a' := ?_) #[true, true, true, true, true, true, true, false, false, false, false, false, false, false, false, false, false, false, false] rfl rfl (by kernel_rfl) (fun _ _ _ h => h) (Or.inl ⟨by rfl, ?_⟩) ?_ ?_
  rotate_left
  · intro w'
    go_simp
    with_reducible rfl
  rotate_left
  · simp only [Act.put, List.setIfInBounds_toArray, List.set_cons_zero, List.set_cons_succ, i64_w, i32_w]
    rfl
  refine pure_ (i := 7) (N := some 61) (v := ?_) (a' := ?_) #[true, true, true, true, true, true, true, true, false, false, false, false, false, false, false, false, false, false, false] rfl rfl (by kernel_rfl) (fun _ _ _ h => h) (Or.inl ⟨by rfl, ?_⟩) ?_ ?_
  rotate_left
  · intro w'
    go_simp
    with_reducible rfl
  rotate_left
  · simp only [Act.put, List.setIfInBounds_toArray, List.set_cons_zero, List.set_cons_succ, i64_w, i32_w]
    rfl
  refine pure_ (i := 8) (N := some 62) (v := ?_) (a' := ?_) #[true, true, true, true, true, true, true, true, true, false, false, false, false, false, false, false, false, false, false] rfl rfl (by kernel_rfl) (fun _ _ _ h => h) (Or.inl ⟨by rfl, ?_⟩) ?_ ?_
  rotate_left
  · intro w'
    go_simp
    with_reducible rfl
  rotate_left
  · simp only [Act.put, List.setIfInBounds_toArray, List.set_cons_zero, List.set_cons_succ, i64_w, i32_w]
    rfl
  refine pure_ (i := 9) (N := some 63) (v := ?_) (a' := ?_) #[true, true, true, true, true, true, true, true, true, true, false, false, false, false, false, false, false, false, false] rfl rfl (by kernel_rfl) (fun _ _ _ h => h) (Or.inl ⟨by rfl, ?_⟩) ?_ ?_
  rotate_left
  · intro w'
    go_simp
    with_reducible rfl
  rotate_left
  · simp only [Act.put, List.setIfInBounds_toArray, List.set_cons_zero, List.set_cons_succ, i64_w, i32_w]
    rfl
  refine pure_ (i := 12) (N := some 66) (v := ?_) (a' := ?_) #[true, true, true, true, true, true, true, true, true, true, false, false, true, false, false, false, false, false, false] rfl rfl (by kernel_rfl) (fun _ _ _ h => h) (Or.inl ⟨by rfl, ?_⟩) ?_ ?_
  rotate_left
  · intro w'
    go_simp
    with_reducible rfl
  rotate_left
  · simp only [Act.put, List.setIfInBounds_toArray, List.set_cons_zero, List.set_cons_succ, i64_w, i32_w]
    rfl
  refine pure_ (i := 13) (N := some 67) (v := ?_) (a' := ?_) #[true, true, true, true, true, true, true, true, true, true, false, false, true, true, false, false, false, false, false] rfl rfl (by kernel_rfl) (fun _ _ _ h => h) (Or.inl ⟨by rfl, ?_⟩) ?_ ?_
  rotate_left
  · intro w'
    go_simp
    with_reducible rfl
  rotate_left
  · simp only [Act.put, List.setIfInBounds_toArray, List.set_cons_zero, List.set_cons_succ, i64_w, i32_w]
    rfl
  refine pure_ (i := 14) (N := some 68) (v := ?_) (a' := ?_) #[true, true, true, true, true, true, true, true, true, true, false, false, true, true, true, false, false, false, false] rfl rfl (by kernel_rfl) (fun _ _ _ h => h) (Or.inl ⟨by rfl, ?_⟩) ?_ ?_
  rotate_left
  · intro w'
    have hTw := hT w'
    go_simp
    with_reducible rfl
  rotate_left
  · simp only [Act.put, List.setIfInBounds_toArray, List.set_cons_zero, List.set_cons_succ, i64_w, i32_w]
    rfl
  refine take_ (i := 15) (N := some 69) (v := ?_) (a' := ?_) #[true, true, true, true, true, true, true, true, true, true, false, false, true, true, true, true, false, false, false] rfl rfl (by kernel_rfl) (fun _ _ _ h => h) (Or.inl ⟨by rfl, ?_⟩) hHeld ?_ ?_
  rotate_left
  · intro w' s0
    have cw := string_of_reads (c := c) (dst := 9) Try.underlying25 Try.underlying5 Try.underlying9 s0
    go_simp
    with_reducible rfl
  rotate_left
  · simp only [Act.put, List.setIfInBounds_toArray, List.set_cons_zero, List.set_cons_succ, i64_w, i32_w]
    rfl
  refine one_ (i := 10) (N := some 64) #[true, true, true, true, true, true, true, true, true, true, true, false, true, true, true, true, false, false, false] rfl rfl (by kernel_rfl) (by decide) (fun K hK => ?_)
  refine goes_ Try.func21 (by kernel_rfl) rfl #[.pointer (some ⟨w2.heap.size, 0, none⟩)] (by rfl) rfl rfl (by (try simp only [List.map_toArray, List.map_cons, List.map_nil]); first | done | rfl) ?_
  refine (HBY5.out (nd + nd2 + 1)).mono ?_
  rintro e w8 ⟨v, rfl, hown, hB⟩
  obtain ⟨A8, c8, rfl, hc8, hr8⟩ := own_slice_le hown
  have HB8 := Aside0.mk (below_step (pw_below_drewN HB5.out _) hB)
  have hS8 := HRT.out _ (ReadsInt.below HR.out HB8.out)
  have HR8 := Aside0.mk hr8
  clear hown hB hr8 hc8
  refine ⟨_, rfl, ?_⟩
  refine hK.out _ _ hS8 (fun hHeld => ?_)
  clear hK K
  refine norm_ (a' := ?_) ?_ ?_
  rotate_left
  · show Act.put _ (some 64) _ = _
    simp only [Act.put, List.setIfInBounds_toArray, List.set_cons_zero, List.set_cons_succ, i64_w, i32_w]
    rfl
  refine one_ (i := 11) (N := some 65) #[true, true, true, true, true, true, true, true, true, true, true, true, true, true, true, true, false, false, false] rfl rfl (by kernel_rfl) (by decide) (fun K hK => ?_)
  refine value_ (v := .string (strOfNums x)) (by rfl) rfl (by have cw := string_of_reads (c := c8) (dst := 9) Try.underlying25 Try.underlying5 Try.underlying9 HR8.out; go_simp; with_reducible rfl) ?_
  refine hK.out _ _ hHeld (fun hHeld => ?_)
  clear hK K
  refine norm_ (a' := ?_) ?_ ?_
  rotate_left
  · show Act.put _ (some 65) _ = _
    simp only [Act.put, List.setIfInBounds_toArray, List.set_cons_zero, List.set_cons_succ, i64_w, i32_w]
    rfl
  refine pure_ (i := 16) (N := some 70) (v := ?_) (a' := ?_) #[true, true, true, true, true, true, true, true, true, true, true, true, true, true, true, true, true, false, false] rfl rfl (by kernel_rfl) (fun _ _ _ h => h) (Or.inl ⟨by rfl, ?_⟩) ?_ ?_
  rotate_left
  · intro w'
    go_simp
    with_reducible rfl
  rotate_left
  · simp only [Act.put, List.setIfInBounds_toArray, List.set_cons_zero, List.set_cons_succ, i64_w, i32_w]
    rfl
  refine pure_ (i := 17) (N := some 71) (v := ?_) (a' := ?_) #[true, true, true, true, true, true, true, true, true, true, true, true, true, true, true, true, true, true, false] rfl rfl (by kernel_rfl) (fun _ _ _ h => h) (Or.inl ⟨by rfl, ?_⟩) ?_ ?_
  rotate_left
  · intro w'
    go_simp
    with_reducible rfl
  rotate_left
  · simp only [Act.put, List.setIfInBounds_toArray, List.set_cons_zero, List.set_cons_succ, i64_w, i32_w]
    rfl
  refine pure_ (i := 18) (N := some 4) (v := ?_) (a' := ?_) #[true, true, true, true, true, true, true, true, true, true, true, true, true, true, true, true, true, true, true] rfl rfl (by kernel_rfl) (fun _ _ _ h => h) (Or.inl ⟨by rfl, ?_⟩) ?_ ?_
  rotate_left
  · intro w'
    go_simp
    with_reducible rfl
  rotate_left
  · simp only [Act.put, List.setIfInBounds_toArray, List.set_cons_zero, List.set_cons_succ, i64_w, i32_w]
    rfl
  refine done_ (by kernel_rfl) ?_
  all_goals go_wp2
  all_goals go_ret
  all_goals exact ⟨by first | rfl | (simp; done), by first | exact HB8.out | exact pw_below_drewN HB8.out _ | exact pw_below_drewN (pw_below_drewN HB8.out _) _⟩
set_option maxHeartbeats 2000000 in
set_option maxRecDepth 100000 in
theorem PackOne_2b (A : Option Addr) (c : Nat) (bs : List Int) (kind : Int) (w : World) (hc : bs.length ≤ c) (hrd : ReadsInt w .u8 A bs.length bs) (h8 : Bytes8 bs) (hl : bs.length ≤ 5000) (d1 : (kind == 0) = false) (d2 : (kind == 1) = false) (n : List Int) (bs' : List Int) (hr : rText 5000 bs false = (n, bs', true)) (hn : n.length ≤ 5000) (hsame : bs' = bs) :
    Calls Try.prog 5 #[.slice A bs.length c, .int .i64 kind] w fun e w' => e = .returned (.bool true) ∧ Below w.heap.size w w' := by
  have HU := Aside0.mk (awake_calls w)
  have HR := Aside0.mk hrd
  have HC := Aside0.mk hc
  have H8 := Aside0.mk h8
  have HL := Aside0.mk hl
  have HP := Aside0.mk hr
  have dl : decide ((bs.length : Int) > 5000) = false := decide_eq_false (by omega)
  have HN := Aside0.mk hn
  clear hn
  have de : ((bs'.length : Int) == (bs.length : Int)) = true := by rw [hsame]; simp
  clear hsame
  clear hrd hc h8 hl hr
  go_enter Try.func5, Try.ntmps5
  go_wp2_with (first
    | (go_at_call 15; refine HU.out.mono ?_; rintro e w1 ⟨rfl, hB⟩; have HB1 := Aside0.mk hB; have H1 := Aside0.mk (Pack_Read A c w1 bs HC.out (ReadsInt.below HR.out hB) (Nat.lt_of_le_of_lt HL.out (by decide))); clear hB)
    | (go_at_call 24; refine H1.out.mono ?_; rintro e w2 ⟨g, A2, c2, rfl, hg, hb, hc2, hr2, hfar, hB⟩; have hgs : g < w2.heap.size := lt_of_get hb; have HF2 : Aside0 (∀ ad, A2 = some ad → ad.block ≠ g) := ⟨fun ad e => (hfar ad e).1⟩; have HG : Aside0 (w.heap.size ≤ g ∧ g < w2.heap.size) := ⟨Nat.le_trans HB1.out.size hg, hgs⟩; have HB2 := Aside0.mk (below_alloc (below_step HB1.out hB) (.cells #[.slice none 0 0] 33)); have HA2 := Aside0.mk (heap_alloc_new w2 (.cells #[.slice none 0 0] 33)); have HS2 : Aside0 (w2.heap.size < (w2.alloc (.cells #[.slice none 0 0] 33)).heap.size) := ⟨lt_of_get HA2.out⟩; have H2 := Aside0.mk (Reader_Text g A2 c2 (w2.alloc (.cells #[.slice none 0 0] 33)) bs false (((below_alloc (Below.refl _ w2) _).block g hgs).trans hb) hc2 (ReadsInt.below hr2 (below_alloc (Below.refl _ w2) _)) HF2.out H8.out (Nat.lt_of_le_of_lt HL.out (by decide)) 5000 n bs' true HP.out); clear hg hb hc2 hr2 hfar hB hgs)
    | (go_at_call 29; refine H2.out.mono ?_; rintro e w4 ⟨rfl, A4, c4, q1, q2, q3, q4, q5⟩; have HS4 : Aside0 (w2.heap.size ≤ w4.heap.size) := ⟨Nat.le_trans (Nat.le_of_lt HS2.out) q5.2.size⟩; have hk := (q5.1.2 w2.heap.size HS2.out (Nat.ne_of_gt HG.out.2) (by simp)).trans HA2.out; have HB4 := Aside0.mk (below_keep HB2.out HG.out.1 q5); have HQ4 := Aside0.mk q1; have H3 := Aside0.mk (Writer_Text w2.heap.size (cutW w4 w2.heap.size) w4 [] (strOfNums n) (cutW_below HS4.out) (cutW_new HS4.out hk) (by simp) (by rw [strOfNums_size]; exact Nat.lt_of_le_of_lt HN.out (by decide))); clear q1 q2 q3 q4 q5 hk)
    | (go_at_call 28; refine H3.out.mono ?_; rintro e w5 ⟨rfl, hI, hB⟩; simp only [List.nil_append] at hI; have HI5 := Aside0.mk hI; have HB5 := Aside0.mk (cutW_step HS4.out (Nat.le_trans HG.out.1 (Nat.le_of_lt HG.out.2)) HB4.out hB); have HG5 := Aside0.mk ((cutW_block HS4.out hB HG.out.2).trans HQ4.out); have HE := Aside0.mk (Reader_Err g A4 c4 w5 bs' true HG5.out); have HL5 := Aside0.mk (fun nd => Reader_Left g A4 c4 (w5.drewN nd) bs' true HG5.out); clear hI hB)
    | (go_at_call 30; refine HE.out.mono ?_; rintro e w6 ⟨rfl, ⟨nd, rfl⟩⟩)
    | (go_at_call 31; refine (HL5.out _).mono ?_; rintro e w7 ⟨rfl, ⟨nd2, rfl⟩⟩))
  go_ret
  exact ⟨by first | rfl | (simp [de]; done), by first | exact HB5.out | exact pw_below_drewN HB5.out _ | exact pw_below_drewN (pw_below_drewN HB5.out _) _⟩
set_option maxHeartbeats 2000000 in
set_option maxRecDepth 100000 in
theorem PackOne_2g (A : Option Addr) (c : Nat) (bs : List Int) (kind : Int) (w : World) (hc : bs.length ≤ c) (hrd : ReadsInt w .u8 A bs.length bs) (h8 : Bytes8 bs) (hl : bs.length ≤ 5000) (d1 : (kind == 0) = false) (d2 : (kind == 1) = false) (n : List Int) (bs' : List Int) (hr : rText 5000 bs false = (n, bs', false)) (hn : n.length ≤ 5000) (x : List Int) (hx : x = enc ((strOfNums n).size : Nat) ++ bytesOf (strOfNums n)) (howt : bs = x ++ bs') (hpos : 0 < x.length) (hby : Bytes8 x) :
    Calls Try.prog 5 #[.slice A bs.length c, .int .i64 kind] w fun e w' => e = .returned (.bool true) ∧ Below w.heap.size w w' := by
  have HU := Aside0.mk (awake_calls w)
  have HR := Aside0.mk hrd
  have HC := Aside0.mk hc
  have H8 := Aside0.mk h8
  have HL := Aside0.mk hl
  have HP := Aside0.mk hr
  have dl : decide ((bs.length : Int) > 5000) = false := decide_eq_false (by omega)
  have HN := Aside0.mk hn
  clear hn
  obtain ⟨ht, hle, hdf⟩ := take_own howt
  have dw : wrap64 ((bs.length : Int) - (bs'.length : Int)) = (bs.length : Int) - (bs'.length : Int) := wrap_sub hle (by omega)
  have dp : decide (wrap64 ((bs.length : Int) - (bs'.length : Int)) > 0) = true := decide_eq_true (by omega)
  have dp2 : decide (wrap64 ((bs.length : Int) - (bs'.length : Int)) ≤ (bs.length : Int)) = true := decide_eq_true (by omega)
  obtain ⟨i, hi, hz0, hz1, hz2⟩ := info_parts info5
  have hT := (print_take_int (k := .u8) 25 5 Try.underlying25 hi hz1 A c bs (wrap64 ((bs.length : Int) - (bs'.length : Int))) (by omega) (by omega) hc).1
  have HRT := Aside0.mk (fun w2 (h : ReadsInt w2 .u8 A bs.length bs) => reads_take2 (v := (bs.length : Int) - (bs'.length : Int)) (by omega) (by omega) h)
  rw [show (wrap64 ((bs.length : Int) - (bs'.length : Int))).toNat = ((bs.length : Int) - (bs'.length : Int)).toNat from by rw [dw]] at hT
  clear dw
  rw [ht] at hT
  rw [ht] at HRT
  have HBY := Aside0.mk hby
  have HX := Aside0.mk hx
  clear hi hz0 hz1 hz2 howt hpos ht hle hdf hby hx
  clear hrd hc h8 hl hr
  go_enter Try.func5, Try.ntmps5
  go_wp2_with (first
    | (go_at_call 15; refine HU.out.mono ?_; rintro e w1 ⟨rfl, hB⟩; have HB1 := Aside0.mk hB; have H1 := Aside0.mk (Pack_Read A c w1 bs HC.out (ReadsInt.below HR.out hB) (Nat.lt_of_le_of_lt HL.out (by decide))); clear hB)
    | (go_at_call 24; refine H1.out.mono ?_; rintro e w2 ⟨g, A2, c2, rfl, hg, hb, hc2, hr2, hfar, hB⟩; have hgs : g < w2.heap.size := lt_of_get hb; have HF2 : Aside0 (∀ ad, A2 = some ad → ad.block ≠ g) := ⟨fun ad e => (hfar ad e).1⟩; have HG : Aside0 (w.heap.size ≤ g ∧ g < w2.heap.size) := ⟨Nat.le_trans HB1.out.size hg, hgs⟩; have HB2 := Aside0.mk (below_alloc (below_step HB1.out hB) (.cells #[.slice none 0 0] 33)); have HA2 := Aside0.mk (heap_alloc_new w2 (.cells #[.slice none 0 0] 33)); have HS2 : Aside0 (w2.heap.size < (w2.alloc (.cells #[.slice none 0 0] 33)).heap.size) := ⟨lt_of_get HA2.out⟩; have H2 := Aside0.mk (Reader_Text g A2 c2 (w2.alloc (.cells #[.slice none 0 0] 33)) bs false (((below_alloc (Below.refl _ w2) _).block g hgs).trans hb) hc2 (ReadsInt.below hr2 (below_alloc (Below.refl _ w2) _)) HF2.out H8.out (Nat.lt_of_le_of_lt HL.out (by decide)) 5000 n bs' false HP.out); clear hg hb hc2 hr2 hfar hB hgs)
    | (go_at_call 29; refine H2.out.mono ?_; rintro e w4 ⟨rfl, A4, c4, q1, q2, q3, q4, q5⟩; have HS4 : Aside0 (w2.heap.size ≤ w4.heap.size) := ⟨Nat.le_trans (Nat.le_of_lt HS2.out) q5.2.size⟩; have hk := (q5.1.2 w2.heap.size HS2.out (Nat.ne_of_gt HG.out.2) (by simp)).trans HA2.out; have HB4 := Aside0.mk (below_keep HB2.out HG.out.1 q5); have HQ4 := Aside0.mk q1; have H3 := Aside0.mk (Writer_Text w2.heap.size (cutW w4 w2.heap.size) w4 [] (strOfNums n) (cutW_below HS4.out) (cutW_new HS4.out hk) (by simp) (by rw [strOfNums_size]; exact Nat.lt_of_le_of_lt HN.out (by decide))); clear q1 q2 q3 q4 q5 hk)
    | (go_at_call 28; refine H3.out.mono ?_; rintro e w5 ⟨rfl, hI, hB⟩; simp only [List.nil_append] at hI; rw [← HX.out] at hI; have HI5 := Aside0.mk hI; have HB5 := Aside0.mk (cutW_step HS4.out (Nat.le_trans HG.out.1 (Nat.le_of_lt HG.out.2)) HB4.out hB); have HG5 := Aside0.mk ((cutW_block HS4.out hB HG.out.2).trans HQ4.out); have HE := Aside0.mk (Reader_Err g A4 c4 w5 bs' false HG5.out); have HL5 := Aside0.mk (fun nd => Reader_Left g A4 c4 (w5.drewN nd) bs' false HG5.out); have HR5 := Aside0.mk (HRT.out _ (ReadsInt.below HR.out HB5.out)); have HBY5 := Aside0.mk (fun nd => Writer_Bytes w2.heap.size (cutW w4 w2.heap.size) (w5.drewN nd) x (hI.drewN nd) (by rw [HX.out]; exact (text_len n HN.out))); clear hI hB)
    | (go_at_call 30; refine HE.out.mono ?_; rintro e w6 ⟨rfl, ⟨nd, rfl⟩⟩)
    | (go_at_call 31; refine (HL5.out _).mono ?_; rintro e w7 ⟨rfl, ⟨nd2, rfl⟩⟩; have cyw := string_of_reads (w := w5.drewN (nd + nd2 + 1)) (c := c) (dst := 9) Try.underlying25 Try.underlying5 Try.underlying9 HR5.out))
  refine start_ (n := 19) (S := fun w' => ReadsInt w' .u8 A x.length x) (ds := []) #[false, false, false, false, false, false, false, false, false, false, false, false, false, false, false, false, false, false, false] (by kernel_rfl) rfl rfl HR5.out (fun hHeld => ?_)
  refine pure_ (i := 0) (N := some 54) (v := ?_) (a' := ?_) #[true, false, false, false, false, false, false, false, false, false, false, false, false, false, false, false, false, false, false] rfl rfl (by kernel_rfl) (fun _ _ _ h => h) (Or.inl ⟨by rfl, ?_⟩) ?_ ?_
  rotate_left
  · intro w'
    go_simp
    with_reducible rfl
  rotate_left
  · simp only [Act.put, List.setIfInBounds_toArray, List.set_cons_zero, List.set_cons_succ, i64_w, i32_w]
    rfl
  refine pure_ (i := 1) (N := some 55) (v := ?_) (a' := ?_) #[true, true, false, false, false, false, false, false, false, false, false, false, false, false, false, false, false, false, false] rfl rfl (by kernel_rfl) (fun _ _ _ h => h) (Or.inl ⟨by rfl, ?_⟩) ?_ ?_
  rotate_left
  · intro w'
    go_simp
    with_reducible rfl
  rotate_left
  · simp only [Act.put, List.setIfInBounds_toArray, List.set_cons_zero, List.set_cons_succ, i64_w, i32_w]
    rfl
  refine pure_ (i := 2) (N := some 56) (v := ?_) (a' := ?_) #[true, true, true, false, false, false, false, false, false, false, false, false, false, false, false, false, false, false, false] rfl rfl (by kernel_rfl) (fun _ _ _ h => h) (Or.inl ⟨by rfl, ?_⟩) ?_ ?_
  rotate_left
  · intro w'
    go_simp
    with_reducible rfl
  rotate_left
  · simp only [Act.put, List.setIfInBounds_toArray, List.set_cons_zero, List.set_cons_succ, i64_w, i32_w]
    rfl
  refine pure_ (i := 3) (N := some 57) (v := ?_) (a' := ?_) #[true, true, true, true, false, false, false, false, false, false, false, false, false, false, false, false, false, false, false] rfl rfl (by kernel_rfl) (fun _ _ _ h => h) (Or.inl ⟨by rfl, ?_⟩) ?_ ?_
  rotate_left
  · intro w'
    go_simp
    with_reducible rfl
  rotate_left
  · simp only [Act.put, List.setIfInBounds_toArray, List.set_cons_zero, List.set_cons_succ, i64_w, i32_w]
    rfl
  refine pure_ (i := 4) (N := some 58) (v := ?_) (a' := ?_) #[true, true, true, true, true, false, false, false, false, false, false, false, false, false, false, false, false, false, false] rfl rfl (by kernel_rfl) (fun _ _ _ h => h) (Or.inl ⟨by rfl, ?_⟩) ?_ ?_
  rotate_left
  · intro w'
    go_simp
    with_reducible rfl
  rotate_left
  · simp only [Act.put, List.setIfInBounds_toArray, List.set_cons_zero, List.set_cons_succ, i64_w, i32_w]
    rfl
  refine pure_ (i := 5) (N := some 59) (v := ?_) (a' := ?_) #[true, true, true, true, true, true, false, false, false, false, false, false, false, false, false, false, false, false, false] rfl rfl (by kernel_rfl) (fun _ _ _ h => h) (Or.inl ⟨by rfl, ?_⟩) ?_ ?_
  rotate_left
  · intro w'
    go_simp
    with_reducible rfl
  rotate_left
  · simp only [Act.put, List.setIfInBounds_toArray, List.set_cons_zero, List.set_cons_succ, i64_w, i32_w]
    rfl
  refine pure_ (i := 6) (N := some 60) (v := ?_) (a' := ?_) #[true, true, true, true, true, true, true, false, false, false, false, false, false, false, false, false, false, false, false] rfl rfl (by kernel_rfl) (fun _ _ _ h => h) (Or.inl ⟨by rfl, ?_⟩) ?_ ?_
  rotate_left
  · intro w'
    go_simp
    with_reducible rfl
  rotate_left
  · simp only [Act.put, List.setIfInBounds_toArray, List.set_cons_zero, List.set_cons_succ, i64_w, i32_w]
    rfl
  refine pure_ (i := 7) (N := some 61) (v := ?_) (a' := ?_) #[true, true, true, true, true, true, true, true, false, false, false, false, false, false, false, false, false, false, false] rfl rfl (by kernel_rfl) (fun _ _ _ h => h) (Or.inl ⟨by rfl, ?_⟩) ?_ ?_
  rotate_left
  · intro w'
    go_simp
    with_reducible rfl
  rotate_left
  · simp only [Act.put, List.setIfInBounds_toArray, List.set_cons_zero, List.set_cons_succ, i64_w, i32_w]
    rfl
  refine pure_ (i := 8) (N := some 62) (v := ?_) (a' := ?_) #[true, true, true, true, true, true, true, true, true, false, false, false, false, false, false, false, false, false, false] rfl rfl (by kernel_rfl) (fun _ _ _ h => h) (Or.inl ⟨by rfl, ?_⟩) ?_ ?_
  rotate_left
  · intro w'
    go_simp
    with_reducible rfl
  rotate_left
  · simp only [Act.put, List.setIfInBounds_toArray, List.set_cons_zero, List.set_cons_succ, i64_w, i32_w]
    rfl
  refine pure_ (i := 9) (N := some 63) (v := ?_) (a' := ?_) #[true, true, true, true, true, true, true, true, true, true, false, false, false, false, false, false, false, false, false] rfl rfl (by kernel_rfl) (fun _ _ _ h => h) (Or.inl ⟨by rfl, ?_⟩) ?_ ?_
  rotate_left
  · intro w'
    go_simp
    with_reducible rfl
  rotate_left
  · simp only [Act.put, List.setIfInBounds_toArray, List.set_cons_zero, List.set_cons_succ, i64_w, i32_w]
    rfl
  refine pure_ (i := 12) (N := some 66) (v := ?_) (a' := ?_) #[true, true, true, true, true, true, true, true, true, true, false, false, true, false, false, false, false, false, false] rfl rfl (by kernel_rfl) (fun _ _ _ h => h) (Or.inl ⟨by rfl, ?_⟩) ?_ ?_
  rotate_left
  · intro w'
    go_simp
    with_reducible rfl
  rotate_left
  · simp only [Act.put, List.setIfInBounds_toArray, List.set_cons_zero, List.set_cons_succ, i64_w, i32_w]
    rfl
  refine pure_ (i := 13) (N := some 67) (v := ?_) (a' := ?_) #[true, true, true, true, true, true, true, true, true, true, false, false, true, true, false, false, false, false, false] rfl rfl (by kernel_rfl) (fun _ _ _ h => h) (Or.inl ⟨by rfl, ?_⟩) ?_ ?_
  rotate_left
  · intro w'
    go_simp
    with_reducible rfl
  rotate_left
  · simp only [Act.put, List.setIfInBounds_toArray, List.set_cons_zero, List.set_cons_succ, i64_w, i32_w]
    rfl
  refine pure_ (i := 14) (N := some 68) (v := ?_) (a' := ?_) #[true, true, true, true, true, true, true, true, true, true, false, false, true, true, true, false, false, false, false] rfl rfl (by kernel_rfl) (fun _ _ _ h => h) (Or.inl ⟨by rfl, ?_⟩) ?_ ?_
  rotate_left
  · intro w'
    have hTw := hT w'
    go_simp
    with_reducible rfl
  rotate_left
  · simp only [Act.put, List.setIfInBounds_toArray, List.set_cons_zero, List.set_cons_succ, i64_w, i32_w]
    rfl
  refine take_ (i := 15) (N := some 69) (v := ?_) (a' := ?_) #[true, true, true, true, true, true, true, true, true, true, false, false, true, true, true, true, false, false, false] rfl rfl (by kernel_rfl) (fun _ _ _ h => h) (Or.inl ⟨by rfl, ?_⟩) hHeld ?_ ?_
  rotate_left
  · intro w' s0
    have cw := string_of_reads (c := c) (dst := 9) Try.underlying25 Try.underlying5 Try.underlying9 s0
    go_simp
    with_reducible rfl
  rotate_left
  · simp only [Act.put, List.setIfInBounds_toArray, List.set_cons_zero, List.set_cons_succ, i64_w, i32_w]
    rfl
  refine one_ (i := 10) (N := some 64) #[true, true, true, true, true, true, true, true, true, true, true, false, true, true, true, true, false, false, false] rfl rfl (by kernel_rfl) (by decide) (fun K hK => ?_)
  refine goes_ Try.func21 (by kernel_rfl) rfl #[.pointer (some ⟨w2.heap.size, 0, none⟩)] (by rfl) rfl rfl (by (try simp only [List.map_toArray, List.map_cons, List.map_nil]); first | done | rfl) ?_
  refine (HBY5.out (nd + nd2 + 1)).mono ?_
  rintro e w8 ⟨v, rfl, hown, hB⟩
  obtain ⟨A8, c8, rfl, hc8, hr8⟩ := own_slice_le hown
  have HB8 := Aside0.mk (below_step (pw_below_drewN HB5.out _) hB)
  have hS8 := HRT.out _ (ReadsInt.below HR.out HB8.out)
  have HR8 := Aside0.mk hr8
  clear hown hB hr8 hc8
  refine ⟨_, rfl, ?_⟩
  refine hK.out _ _ hS8 (fun hHeld => ?_)
  clear hK K
  refine norm_ (a' := ?_) ?_ ?_
  rotate_left
  · show Act.put _ (some 64) _ = _
    simp only [Act.put, List.setIfInBounds_toArray, List.set_cons_zero, List.set_cons_succ, i64_w, i32_w]
    rfl
  refine one_ (i := 11) (N := some 65) #[true, true, true, true, true, true, true, true, true, true, true, true, true, true, true, true, false, false, false] rfl rfl (by kernel_rfl) (by decide) (fun K hK => ?_)
  refine value_ (v := .string (strOfNums x)) (by rfl) rfl (by have cw := string_of_reads (c := c8) (dst := 9) Try.underlying25 Try.underlying5 Try.underlying9 HR8.out; go_simp; with_reducible rfl) ?_
  refine hK.out _ _ hHeld (fun hHeld => ?_)
  clear hK K
  refine norm_ (a' := ?_) ?_ ?_
  rotate_left
  · show Act.put _ (some 65) _ = _
    simp only [Act.put, List.setIfInBounds_toArray, List.set_cons_zero, List.set_cons_succ, i64_w, i32_w]
    rfl
  refine pure_ (i := 16) (N := some 70) (v := ?_) (a' := ?_) #[true, true, true, true, true, true, true, true, true, true, true, true, true, true, true, true, true, false, false] rfl rfl (by kernel_rfl) (fun _ _ _ h => h) (Or.inl ⟨by rfl, ?_⟩) ?_ ?_
  rotate_left
  · intro w'
    go_simp
    with_reducible rfl
  rotate_left
  · simp only [Act.put, List.setIfInBounds_toArray, List.set_cons_zero, List.set_cons_succ, i64_w, i32_w]
    rfl
  refine pure_ (i := 17) (N := some 71) (v := ?_) (a' := ?_) #[true, true, true, true, true, true, true, true, true, true, true, true, true, true, true, true, true, true, false] rfl rfl (by kernel_rfl) (fun _ _ _ h => h) (Or.inl ⟨by rfl, ?_⟩) ?_ ?_
  rotate_left
  · intro w'
    go_simp
    with_reducible rfl
  rotate_left
  · simp only [Act.put, List.setIfInBounds_toArray, List.set_cons_zero, List.set_cons_succ, i64_w, i32_w]
    rfl
  refine pure_ (i := 18) (N := some 4) (v := ?_) (a' := ?_) #[true, true, true, true, true, true, true, true, true, true, true, true, true, true, true, true, true, true, true] rfl rfl (by kernel_rfl) (fun _ _ _ h => h) (Or.inl ⟨by rfl, ?_⟩) ?_ ?_
  rotate_left
  · intro w'
    go_simp
    with_reducible rfl
  rotate_left
  · simp only [Act.put, List.setIfInBounds_toArray, List.set_cons_zero, List.set_cons_succ, i64_w, i32_w]
    rfl
  refine done_ (by kernel_rfl) ?_
  all_goals go_wp2
  all_goals go_ret
  all_goals exact ⟨by first | rfl | (simp; done), by first | exact HB8.out | exact pw_below_drewN HB8.out _ | exact pw_below_drewN (pw_below_drewN HB8.out _) _⟩
end Go.Proofs.Ytnlbmhojjjjpdaa.Pk
