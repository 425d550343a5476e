/- Texts of one claim, slimmed and merged by slim.py. -/
import Derived.Shelf.Small.Strs
import Derived.Shelf.Utf8.RuneCount
import Derived.Shelf.Strings.Search1
import Derived.Shelf.Sort.Plain
import Derived.Shelf.Strings.RuneCount
import Derived.Shelf.Bits.Mul64
import Derived.Shelf.Slices.CompactS
import Derived.Shelf.Slices.Cells
import Derived.Shelf.Slices.In.SortNone
import Derived.Shelf.SlicesE.Clone
import Derived.Test.YtiaccdaeomaogaaDoorProg
import Derived.Shelf.Unicode.ValidAny
import Derived.Lib.OthersKept
import Derived.Lib.TrimU
import Derived.Test.YtiaccdaeomaogaaDoorA4
namespace Go.Proofs
open Go.Shelf
def Tryd.lays137_ren : Go.Shelf.Ren := ⟨fun | 137 => 159 | 217 => 171 | 266 => 178 | n => n, fun | 9 => 9 | 5 => 5 | 3 => 3 | n => n, fun | n => n⟩
theorem Tryd.lays137 : Go.Proofs.Lays.n137 Tryd.prog Tryd.lays137_ren := {
  mixed := by kernel_rfl
  f137 := Tryd.func159.trans (congrArg some (by kernel_rfl))
  f217 := Tryd.func171.trans (congrArg some (by kernel_rfl))
  f266 := Tryd.func178.trans (congrArg some (by kernel_rfl))
  t3 := Tryd.underlying3
  a3 := Tryd.isAgg3
  z3 := Tryd.sizeOf3
  v3 := Tryd.zeroValue3
  t5 := Tryd.underlying5
  a5 := Tryd.isAgg5
  z5 := Tryd.sizeOf5
  v5 := Tryd.zeroValue5
  t9 := Tryd.underlying9
  a9 := Tryd.isAgg9
  z9 := Tryd.sizeOf9
  v9 := Tryd.zeroValue9 }
open Go.RowKit in
theorem Tryd.strings_IndexByte (s : ByteArray) (c : Int) (w : World) :
    Calls Tryd.prog 159 #[.string s, .int .u8 c] w fun e w' => e = .returned (.int .i64 (Lib.indexByte s.data.toList c.toNat.toUInt8)) ∧ w' = w := Any.strings_IndexByte Tryd.lays137 s c w
def Tryd.lays195_ren : Go.Shelf.Ren := ⟨fun | 195 => 120 | n => n, fun | 9 => 9 | 3 => 3 | 0 => 0 | 4 => 4 | n => n, fun | n => n⟩
theorem Tryd.lays195 : Go.Proofs.Lays.n195 Tryd.prog Tryd.lays195_ren := {
  mixed := by kernel_rfl
  f195 := Tryd.func120.trans (congrArg some (by kernel_rfl))
  t0 := Tryd.underlying0
  a0 := Tryd.isAgg0
  z0 := Tryd.sizeOf0
  v0 := Tryd.zeroValue0
  t3 := Tryd.underlying3
  a3 := Tryd.isAgg3
  z3 := Tryd.sizeOf3
  v3 := Tryd.zeroValue3
  t4 := Tryd.underlying4
  a4 := Tryd.isAgg4
  z4 := Tryd.sizeOf4
  v4 := Tryd.zeroValue4
  t9 := Tryd.underlying9
  a9 := Tryd.isAgg9
  z9 := Tryd.sizeOf9
  v9 := Tryd.zeroValue9 }
open Go.RowKit in
theorem Tryd.utf8_RuneCountInString (s : ByteArray) (w : World) (hs : s.size < 9223372036854775807) :
    Calls Tryd.prog 120 #[.string s] w fun e w' => e = .returned (.int .i64 (Lib.runeCount s)) ∧ ∃ pos, w' = w.iter s pos := Any.utf8_RuneCountInString Tryd.lays195 s w hs
def Tryd.lays190_ren : Go.Shelf.Ren := ⟨fun | 190 => 139 | 125 => 157 | 258 => 156 | 128 => 169 | 129 => 170 | 302 => 160 | 303 => 161 | 304 => 162 | 305 => 163 | 306 => 164 | 307 => 165 | 308 => 166 | 309 => 167 | 310 => 168 | 333 => 172 | 329 => 173 | 330 => 174 | 334 => 175 | 335 => 176 | 336 => 177 | 344 => 179 | n => n, fun | 31 => 23 | 9 => 9 | 3 => 3 | 46 => 184 | 0 => 0 | 51 => 204 | 53 => 188 | 4 => 4 | 183 => 197 | 182 => 196 | 131 => 131 | 5 => 5 | 218 => 206 | 222 => 210 | 228 => 212 | 229 => 186 | n => n, fun | n => n⟩
theorem Tryd.lays190 : Go.Proofs.Lays.n190 Tryd.prog Tryd.lays190_ren := {
  mixed := by kernel_rfl
  f125 := Tryd.func157.trans (congrArg some (by kernel_rfl))
  f128 := Tryd.func169.trans (congrArg some (by kernel_rfl))
  f129 := Tryd.func170.trans (congrArg some (by kernel_rfl))
  f190 := Tryd.func139.trans (congrArg some (by kernel_rfl))
  f258 := Tryd.func156.trans (congrArg some (by kernel_rfl))
  f302 := Tryd.func160.trans (congrArg some (by kernel_rfl))
  f303 := Tryd.func161.trans (congrArg some (by kernel_rfl))
  f304 := Tryd.func162.trans (congrArg some (by kernel_rfl))
  f305 := Tryd.func163.trans (congrArg some (by kernel_rfl))
  f306 := Tryd.func164.trans (congrArg some (by kernel_rfl))
  f307 := Tryd.func165.trans (congrArg some (by kernel_rfl))
  f308 := Tryd.func166.trans (congrArg some (by kernel_rfl))
  f309 := Tryd.func167.trans (congrArg some (by kernel_rfl))
  f310 := Tryd.func168.trans (congrArg some (by kernel_rfl))
  f329 := Tryd.func173.trans (congrArg some (by kernel_rfl))
  f330 := Tryd.func174.trans (congrArg some (by kernel_rfl))
  f333 := Tryd.func172.trans (congrArg some (by kernel_rfl))
  f334 := Tryd.func175.trans (congrArg some (by kernel_rfl))
  f335 := Tryd.func176.trans (congrArg some (by kernel_rfl))
  f336 := Tryd.func177.trans (congrArg some (by kernel_rfl))
  f344 := Tryd.func179.trans (congrArg some (by kernel_rfl))
  t0 := Tryd.underlying0
  a0 := Tryd.isAgg0
  z0 := Tryd.sizeOf0
  v0 := Tryd.zeroValue0
  t3 := Tryd.underlying3
  a3 := Tryd.isAgg3
  z3 := Tryd.sizeOf3
  v3 := Tryd.zeroValue3
  t4 := Tryd.underlying4
  a4 := Tryd.isAgg4
  z4 := Tryd.sizeOf4
  v4 := Tryd.zeroValue4
  t5 := Tryd.underlying5
  a5 := Tryd.isAgg5
  z5 := Tryd.sizeOf5
  v5 := Tryd.zeroValue5
  t9 := Tryd.underlying9
  a9 := Tryd.isAgg9
  z9 := Tryd.sizeOf9
  v9 := Tryd.zeroValue9
  t31 := Tryd.underlying23
  a31 := Tryd.isAgg23
  z31 := Tryd.sizeOf23
  v31 := Tryd.zeroValue23
  t46 := Tryd.underlying184
  a46 := Tryd.isAgg184
  z46 := Tryd.sizeOf184
  v46 := Tryd.zeroValue184
  t51 := Tryd.underlying204
  a51 := Tryd.isAgg204
  z51 := Tryd.sizeOf204
  v51 := Tryd.zeroValue204
  t53 := Tryd.underlying188
  a53 := Tryd.isAgg188
  z53 := Tryd.sizeOf188
  v53 := Tryd.zeroValue188
  t131 := Tryd.underlying131
  a131 := Tryd.isAgg131
  z131 := Tryd.sizeOf131
  v131 := Tryd.zeroValue131
  t182 := Tryd.underlying196
  a182 := Tryd.isAgg196
  z182 := Tryd.sizeOf196
  v182 := Tryd.zeroValue196
  t183 := Tryd.underlying197
  a183 := Tryd.isAgg197
  z183 := Tryd.sizeOf197
  v183 := Tryd.zeroValue197
  t218 := Tryd.underlying206
  a218 := Tryd.isAgg206
  z218 := Tryd.sizeOf206
  v218 := Tryd.zeroValue206
  t222 := Tryd.underlying210
  a222 := Tryd.isAgg210
  z222 := Tryd.sizeOf210
  v222 := Tryd.zeroValue210
  t228 := Tryd.underlying212
  a228 := Tryd.isAgg212
  z228 := Tryd.sizeOf212
  v228 := Tryd.zeroValue212
  t229 := Tryd.underlying186
  a229 := Tryd.isAgg186
  z229 := Tryd.sizeOf186
  v229 := Tryd.zeroValue186 }
open Go.Sort Go.RowKit in
theorem Tryd.slices_Sort_string (blk off cap : Nat) (ss : List (List UInt8)) (w : World) (hH : Holds encStr w blk off ss.toArray) (hblk : blk < w.heap.size) (hsz : ss.length < 4611686018427387904) :
    Calls Tryd.prog 139 #[.slice (some ⟨blk, off, none⟩) ss.length cap] w fun e w' =>
      e = .returned (.tuple #[]) ∧ ∃ n os, w' = grow (putRow encStr (Sort.ahead w n) blk off (ss.mergeSort fun x y => decide (x ≤ y)).toArray) os := Any.slices_Sort_string Tryd.lays190 blk off cap ss w hH hblk hsz
def Tryd.lays194_ren : Go.Shelf.Ren := ⟨fun | 194 => 140 | n => n, fun | 31 => 23 | 9 => 9 | 3 => 3 | 4 => 4 | 0 => 0 | n => n, fun | n => n⟩
theorem Tryd.lays194 : Go.Proofs.Lays.n194 Tryd.prog Tryd.lays194_ren := {
  mixed := by kernel_rfl
  f194 := Tryd.func140.trans (congrArg some (by kernel_rfl))
  t0 := Tryd.underlying0
  a0 := Tryd.isAgg0
  z0 := Tryd.sizeOf0
  v0 := Tryd.zeroValue0
  t3 := Tryd.underlying3
  a3 := Tryd.isAgg3
  z3 := Tryd.sizeOf3
  v3 := Tryd.zeroValue3
  t4 := Tryd.underlying4
  a4 := Tryd.isAgg4
  z4 := Tryd.sizeOf4
  v4 := Tryd.zeroValue4
  t9 := Tryd.underlying9
  a9 := Tryd.isAgg9
  z9 := Tryd.sizeOf9
  v9 := Tryd.zeroValue9
  t31 := Tryd.underlying23
  a31 := Tryd.isAgg23
  z31 := Tryd.sizeOf23
  v31 := Tryd.zeroValue23 }
open Go.RowKit Go.Lib Go.Sort in
theorem Tryd.slices_Compact_string (blk off cap : Nat) (zs : List (List UInt8)) (w : World) (hH : Holds encStr w blk off zs.toArray) (hsz : zs.length ≤ 9223372036854775807) (hcap : zs.length ≤ cap) :
    Calls Tryd.prog 140 #[.slice (some ⟨blk, off, none⟩) zs.length cap] w fun e w' => e = .returned (.slice (some ⟨blk, off, none⟩) (Lib.compact zs).length cap) ∧ ∃ q, w' = putRow encStr (Sort.ahead w q) blk off (Lib.compact zs ++ List.replicate (zs.length - (Lib.compact zs).length) []).toArray := Any.slices_Compact_string Tryd.lays194 blk off cap zs w hH hsz hcap
open Go.RowKit Go.Lib Go.Sort in
theorem Tryd.slices_Compact_string_empty (a : Option Addr) (cap : Nat) (w : World) :
    Calls Tryd.prog 140 #[.slice a 0 cap] w fun e w' => e = .returned (.slice a 0 cap) ∧ w' = w := Any.slices_Compact_string_empty Tryd.lays194 a cap w
open Go.RowKit Go.Sort in
theorem Tryd.slices_Sort_string_none (p : Option Addr) (cap : Nat) (w : World) :
    Calls Tryd.prog 139 #[.slice p 0 cap] w fun e w' => e = .returned (.tuple #[]) ∧ w' = w := Any.slices_Sort_string_none Tryd.lays190 p cap w
def Tryd.lays196_ren : Go.Shelf.Ren := ⟨fun | 196 => 118 | 259 => 148 | n => n, fun | 9 => 9 | 4 => 4 | 3 => 3 | 5 => 5 | 12 => 12 | 119 => 180 | 0 => 0 | 46 => 184 | 139 => 183 | 138 => 182 | 53 => 188 | n => n, fun | 3 => 0 | 4 => 1 | n => n⟩
theorem Tryd.lays196 : Go.Proofs.Lays.n196 Tryd.prog Tryd.lays196_ren := {
  mixed := by kernel_rfl
  f196 := Tryd.func118.trans (congrArg some (by kernel_rfl))
  f259 := Tryd.func148.trans (congrArg some (by kernel_rfl))
  t0 := Tryd.underlying0
  a0 := Tryd.isAgg0
  z0 := Tryd.sizeOf0
  v0 := Tryd.zeroValue0
  t3 := Tryd.underlying3
  a3 := Tryd.isAgg3
  z3 := Tryd.sizeOf3
  v3 := Tryd.zeroValue3
  t4 := Tryd.underlying4
  a4 := Tryd.isAgg4
  z4 := Tryd.sizeOf4
  v4 := Tryd.zeroValue4
  t5 := Tryd.underlying5
  a5 := Tryd.isAgg5
  z5 := Tryd.sizeOf5
  v5 := Tryd.zeroValue5
  t9 := Tryd.underlying9
  a9 := Tryd.isAgg9
  z9 := Tryd.sizeOf9
  v9 := Tryd.zeroValue9
  t12 := Tryd.underlying12
  a12 := Tryd.isAgg12
  z12 := Tryd.sizeOf12
  v12 := Tryd.zeroValue12
  t46 := Tryd.underlying184
  a46 := Tryd.isAgg184
  z46 := Tryd.sizeOf184
  v46 := Tryd.zeroValue184
  t53 := Tryd.underlying188
  a53 := Tryd.isAgg188
  z53 := Tryd.sizeOf188
  v53 := Tryd.zeroValue188
  t119 := Tryd.underlying180
  a119 := Tryd.isAgg180
  z119 := Tryd.sizeOf180
  t138 := Tryd.underlying182
  a138 := Tryd.isAgg182
  z138 := Tryd.sizeOf182
  v138 := Tryd.zeroValue182
  t139 := Tryd.underlying183
  a139 := Tryd.isAgg183
  z139 := Tryd.sizeOf183
  v139 := Tryd.zeroValue183
  g3 := by kernel_rfl
  g4 := by kernel_rfl }
open Go.RowKit Go.Lib in
theorem Tryd.utf8_ValidString (s : ByteArray) (w : World) (hs : s.size ≤ 9223372036854775807) (hT : Lib.Utf8Tabs 0 1 w) :
    Calls Tryd.prog 118 #[.string s] w fun e w' => e = .returned (.bool (Lib.validD s.data.toList)) ∧ Below w.heap.size w w' := Any.utf8_ValidString Tryd.lays196 s w hs hT
end Go.Proofs
namespace Go.Proofs.YtiaccdaeomaogaaDoor.F
open Go.RowKit Go.Proofs.YtiaccdaeomaogaaDoorW.PrintWords Go.Proofs.YtiaccdaeomaogaaDoorW.PrintLast Go.Proofs.YtiaccdaeomaogaaDoorW.PrintMore
attribute [local go_sem] max2_int min2_int max_two min_two max_three min_three max_four min_four   -- for this text's walks alone
set_option linter.unusedVariables false
set_option linter.unusedSimpArgs false
def strings_IndexByte.f (a0 : ByteArray) (a1 : Int) : Option Int := some (Lib.indexByte a0.data.toList a1.toNat.toUInt8)
theorem strings_IndexByte.calls (a0 : ByteArray) (a1 : Int) (r : Int) (w : World) (h : strings_IndexByte.f a0 a1 = some r) :
    Calls Tryd.prog 159 #[.string a0, .int .u8 a1] w fun e w' => e = .returned (.int .i64 r) ∧ Drawn0 w w' := by
  obtain rfl := Option.some.inj h
  exact (Tryd.strings_IndexByte a0 a1 w).mono fun e w' ⟨he, hw⟩ => ⟨he, by rw [hw]; exact Drawn0.refl _⟩
mutual
def lex_Class.j0 : Nat → Int → Bool → Option (Int)
  | 0, _, _ => none
  | k + 1, x0, x3 => if x3 = true then (some 1) else (if x0 ≥ 97 then (lex_Class.j1 k x0 (decide (x0 ≤ 122))) else (lex_Class.j1 k x0 false))
def lex_Class.j1 : Nat → Int → Bool → Option (Int)
  | 0, _, _ => none
  | k + 1, x0, x12 => if x12 = true then (lex_Class.j2 k x0 x12) else (if x0 ≥ 65 then (if x0 ≤ 90 then (lex_Class.j2 k x0 (decide (x0 ≤ 90))) else (lex_Class.j2 k x0 (x0 == 95))) else (lex_Class.j2 k x0 (x0 == 95)))
def lex_Class.j2 : Nat → Int → Bool → Option (Int)
  | 0, _, _ => none
  | k + 1, x0, x12 => if x12 = true then (some 2) else (if x0 ≥ 192 then (if x0 ≤ 591 then (if x0 = 215 then (lex_Class.j3 k x0 false) else (lex_Class.j3 k x0 (x0 != 247))) else (lex_Class.j3 k x0 false)) else (lex_Class.j3 k x0 false))
def lex_Class.j3 : Nat → Int → Bool → Option (Int)
  | 0, _, _ => none
  | k + 1, x0, x27 => if x27 = true then (some 2) else (if x0 ≥ 48 then (lex_Class.j4 k x0 (decide (x0 ≤ 57))) else (lex_Class.j4 k x0 false))
def lex_Class.j4 : Nat → Int → Bool → Option (Int)
  | 0, _, _ => none
  | k + 1, x0, x42 => if x42 = true then (some 3) else (if x0 = 34 then (some 5) else (if x0 = 35 then (some 6) else (if x0 > 32 then (if x0 < 127 then ((strings_IndexByte.f (⟨#[40, 41, 123, 125, 44, 59, 58, 61, 43, 45, 42, 47, 37, 60, 62, 33, 38, 124]⟩ : ByteArray) ((x0) % 256)).bind fun t101 => (if t101 ≥ 0 then (some 4) else (some 0))) else (some 0)) else (some 0))))
end
def lex_Class.f (k : Nat) (a0 : Int) : Option (Int) := if a0 = 32 then (lex_Class.j0 k a0 (a0 == 32)) else (if a0 = 9 then (lex_Class.j0 k a0 (a0 == 9)) else (if a0 = 13 then (lex_Class.j0 k a0 (a0 == 13)) else (lex_Class.j0 k a0 (a0 == 10))))
set_option maxHeartbeats 8000000 in
set_option maxRecDepth 100000 in
theorem lex_Class.calls (k : Nat) (a0 : Int) (r : Int) (w : World) (h : lex_Class.f k a0 = some r) :
    Calls Tryd.prog 149 #[.int .i32 a0] w fun e w' => e = .returned (.int .i64 r) ∧ Drawn0 w w' := by
  have H : (if a0 = 32 then (lex_Class.j0 k a0 (a0 == 32)) else (if a0 = 9 then (lex_Class.j0 k a0 (a0 == 9)) else (if a0 = 13 then (lex_Class.j0 k a0 (a0 == 13)) else (lex_Class.j0 k a0 (a0 == 10))))) = some r := h
  clear h
  have HC2 := Aside0.mk H
  clear H
  go_enter Tryd.func149, Tryd.ntmps149
  go_upto_if 3 with (fail)
  go_cut [3] (fun v3 wc => ∃ (kq : Nat) (x3_1 : Bool), v3 = .bool x3_1 ∧ Aside0 (lex_Class.j0 kq a0 x3_1 = some r) ∧ Aside0 (kq ≤ k) ∧ Drawn0 w wc)
  case first =>
    have H := HC2.out
    clear HC2
    by_cases c3 : a0 = 32
    · rw [if_pos c3] at H
      obtain ⟨c3b0, c3b1⟩ := qe c3
      clear c3
      (first | rw [c3b0] | (simp only [i64_w, i32_w]; rw [c3b0]) | skip)
      have H' := Aside0.mk H
      clear H
      go_wp2
      go_meet
      case rel => exact ⟨_, ((a0 == 32)), qv, H', ql, by repeat (first | exact Drawn0.refl _ | apply Drawn0.step)⟩
    rw [if_neg c3] at H
    obtain ⟨c3b0, c3b1⟩ := qd c3
    (first | rw [c3b0] | (simp only [i64_w, i32_w]; rw [c3b0]) | skip)
    by_cases c4 : a0 = 9
    · rw [if_pos c4] at H
      obtain ⟨c4b0, c4b1⟩ := qe c4
      clear c4
      have H' := Aside0.mk H
      clear H
      go_wp2
      go_meet
      case rel => exact ⟨_, ((a0 == 9)), qv, H', ql, by repeat (first | exact Drawn0.refl _ | apply Drawn0.step)⟩
    rw [if_neg c4] at H
    obtain ⟨c4b0, c4b1⟩ := qd c4
    by_cases c5 : a0 = 13
    · rw [if_pos c5] at H
      obtain ⟨c5b0, c5b1⟩ := qe c5
      clear c5
      have H' := Aside0.mk H
      clear H
      go_wp2
      go_meet
      case rel => exact ⟨_, ((a0 == 13)), qv, H', ql, by repeat (first | exact Drawn0.refl _ | apply Drawn0.step)⟩
    rw [if_neg c5] at H
    obtain ⟨c5b0, c5b1⟩ := qd c5
    have H' := Aside0.mk H
    clear H
    go_wp2
    go_meet
    case rel => exact ⟨_, ((a0 == 10)), qv, H', ql, by repeat (first | exact Drawn0.refl _ | apply Drawn0.step)⟩
  clear HC2
  obtain ⟨kq, x3_1, rfl, HA, HJ1, ⟨mc1, rfl⟩⟩ := hcut
  cases kq with
  | zero => exact absurd HA.out (by simp [lex_Class.j0])
  | succ kj1 =>
    have H := HA.out
    clear HA
    simp only [lex_Class.j0] at H
    by_cases c6 : x3_1 = true
    · subst c6
      rw [if_pos rfl] at H
      obtain rfl := Option.some.inj H
      go_wp2
      go_ret
      exact ⟨by first | rfl | (simp; done) | (simp [*]; done), by repeat (first | exact Drawn0.refl _ | apply Drawn0.step)⟩
    replace c6 := Bool.eq_false_iff.mpr c6
    subst c6
    rw [if_neg qf] at H
    have HC7 := Aside0.mk H
    clear H
    go_upto_region 6 with (fail)
    go_cut [12] (fun v12 wc => ∃ (kq : Nat) (x12_6 : Bool), v12 = .bool x12_6 ∧ Aside0 (lex_Class.j1 kq a0 x12_6 = some r) ∧ Aside0 (kq ≤ kj1) ∧ Drawn0 w wc)
    case first =>
      have H := HC7.out
      clear HC7
      by_cases c8 : a0 ≥ 97
      · rw [if_pos c8] at H
        have c8b0 : decide (97 ≤ a0) = true := decide_eq_true c8
        clear c8
        (first | rw [c8b0] | (simp only [i64_w, i32_w]; rw [c8b0]) | skip)
        have H' := Aside0.mk H
        clear H
        go_wp2
        go_meet
        case rel => exact ⟨_, (decide (a0 ≤ 122)), qv, H', ⟨by have := HJ1.out; first | omega | exact Nat.le_refl _⟩, by repeat (first | exact Drawn0.refl _ | apply Drawn0.step)⟩
      rw [if_neg c8] at H
      have c8b0 : decide (97 ≤ a0) = false := decide_eq_false c8
      clear c8
      (first | rw [c8b0] | (simp only [i64_w, i32_w]; rw [c8b0]) | skip)
      have H' := Aside0.mk H
      clear H
      go_wp2
      go_meet
      case rel => exact ⟨_, (false), qv, H', ⟨by have := HJ1.out; first | omega | exact Nat.le_refl _⟩, by repeat (first | exact Drawn0.refl _ | apply Drawn0.step)⟩
    clear HC7
    obtain ⟨kq, x12_6, rfl, HA, HJ6, ⟨mc6, rfl⟩⟩ := hcut
    cases kq with
    | zero => exact absurd HA.out (by simp [lex_Class.j1])
    | succ kj6 =>
      have H := HA.out
      clear HA
      simp only [lex_Class.j1] at H
      have HC9 := Aside0.mk H
      clear H
      go_upto_if 12 with (fail)
      go_cut [12] (fun v12 wc => ∃ (kq : Nat) (x12_8 : Bool), v12 = .bool x12_8 ∧ Aside0 (lex_Class.j2 kq a0 x12_8 = some r) ∧ Aside0 (kq ≤ kj6) ∧ Drawn0 w wc)
      case first =>
        have H := HC9.out
        clear HC9
        by_cases c10 : x12_6 = true
        · subst c10
          rw [if_pos rfl] at H
          have H' := Aside0.mk H
          clear H
          go_wp2
          go_meet
          case rel => exact ⟨_, (true), qv, H', ⟨by have := HJ1.out; have := HJ6.out; first | omega | exact Nat.le_refl _⟩, by repeat (first | exact Drawn0.refl _ | apply Drawn0.step)⟩
        replace c10 := Bool.eq_false_iff.mpr c10
        subst c10
        rw [if_neg qf] at H
        by_cases c11 : a0 ≥ 65
        · rw [if_pos c11] at H
          have c11b0 : decide (65 ≤ a0) = true := decide_eq_true c11
          clear c11
          (first | rw [c11b0] | (simp only [i64_w, i32_w]; rw [c11b0]) | skip)
          by_cases c12 : a0 ≤ 90
          · rw [if_pos c12] at H
            have c12b0 : decide (a0 ≤ 90) = true := decide_eq_true c12
            clear c12
            have H' := Aside0.mk H
            clear H
            go_wp2
            go_meet
            case rel => exact ⟨_, (decide (a0 ≤ 90)), qv, H', ⟨by have := HJ1.out; have := HJ6.out; first | omega | exact Nat.le_refl _⟩, by repeat (first | exact Drawn0.refl _ | apply Drawn0.step)⟩
          rw [if_neg c12] at H
          have c12b0 : decide (a0 ≤ 90) = false := decide_eq_false c12
          clear c12
          have H' := Aside0.mk H
          clear H
          go_wp2
          go_meet
          case rel => exact ⟨_, ((a0 == 95)), qv, H', ⟨by have := HJ1.out; have := HJ6.out; first | omega | exact Nat.le_refl _⟩, by repeat (first | exact Drawn0.refl _ | apply Drawn0.step)⟩
        rw [if_neg c11] at H
        have c11b0 : decide (65 ≤ a0) = false := decide_eq_false c11
        clear c11
        (first | rw [c11b0] | (simp only [i64_w, i32_w]; rw [c11b0]) | skip)
        have H' := Aside0.mk H
        clear H
        go_wp2
        go_meet
        case rel => exact ⟨_, ((a0 == 95)), qv, H', ⟨by have := HJ1.out; have := HJ6.out; first | omega | exact Nat.le_refl _⟩, by repeat (first | exact Drawn0.refl _ | apply Drawn0.step)⟩
      clear HC9
      obtain ⟨kq, x12_8, rfl, HA, HJ8, ⟨mc8, rfl⟩⟩ := hcut
      cases kq with
      | zero => exact absurd HA.out (by simp [lex_Class.j2])
      | succ kj8 =>
        have H := HA.out
        clear HA
        simp only [lex_Class.j2] at H
        by_cases c13 : x12_8 = true
        · subst c13
          rw [if_pos rfl] at H
          obtain rfl := Option.some.inj H
          go_wp2
          go_ret
          exact ⟨by first | rfl | (simp; done) | (simp [*]; done), by repeat (first | exact Drawn0.refl _ | apply Drawn0.step)⟩
        replace c13 := Bool.eq_false_iff.mpr c13
        subst c13
        rw [if_neg qf] at H
        have HC14 := Aside0.mk H
        clear H
        go_upto_region 10 with (fail)
        go_cut [27] (fun v27 wc => ∃ (kq : Nat) (x27_13 : Bool), v27 = .bool x27_13 ∧ Aside0 (lex_Class.j3 kq a0 x27_13 = some r) ∧ Aside0 (kq ≤ kj8) ∧ Drawn0 w wc)
        case first =>
          have H := HC14.out
          clear HC14
          by_cases c15 : a0 ≥ 192
          · rw [if_pos c15] at H
            have c15b0 : decide (192 ≤ a0) = true := decide_eq_true c15
            clear c15
            (first | rw [c15b0] | (simp only [i64_w, i32_w]; rw [c15b0]) | skip)
            by_cases c16 : a0 ≤ 591
            · rw [if_pos c16] at H
              have c16b0 : decide (a0 ≤ 591) = true := decide_eq_true c16
              clear c16
              by_cases c17 : a0 = 215
              · rw [if_pos c17] at H
                obtain ⟨c17b0, c17b1⟩ := qe c17
                clear c17
                have H' := Aside0.mk H
                clear H
                go_wp2
                go_meet
                case rel => exact ⟨_, (false), qv, H', ⟨by have := HJ1.out; have := HJ6.out; have := HJ8.out; first | omega | exact Nat.le_refl _⟩, by repeat (first | exact Drawn0.refl _ | apply Drawn0.step)⟩
              rw [if_neg c17] at H
              obtain ⟨c17b0, c17b1⟩ := qd c17
              have H' := Aside0.mk H
              clear H
              go_wp2
              go_meet
              case rel => exact ⟨_, ((a0 != 247)), qv, H', ⟨by have := HJ1.out; have := HJ6.out; have := HJ8.out; first | omega | exact Nat.le_refl _⟩, by repeat (first | exact Drawn0.refl _ | apply Drawn0.step)⟩
            rw [if_neg c16] at H
            have c16b0 : decide (a0 ≤ 591) = false := decide_eq_false c16
            clear c16
            have H' := Aside0.mk H
            clear H
            go_wp2
            go_meet
            case rel => exact ⟨_, (false), qv, H', ⟨by have := HJ1.out; have := HJ6.out; have := HJ8.out; first | omega | exact Nat.le_refl _⟩, by repeat (first | exact Drawn0.refl _ | apply Drawn0.step)⟩
          rw [if_neg c15] at H
          have c15b0 : decide (192 ≤ a0) = false := decide_eq_false c15
          clear c15
          (first | rw [c15b0] | (simp only [i64_w, i32_w]; rw [c15b0]) | skip)
          have H' := Aside0.mk H
          clear H
          go_wp2
          go_meet
          case rel => exact ⟨_, (false), qv, H', ⟨by have := HJ1.out; have := HJ6.out; have := HJ8.out; first | omega | exact Nat.le_refl _⟩, by repeat (first | exact Drawn0.refl _ | apply Drawn0.step)⟩
        clear HC14
        obtain ⟨kq, x27_13, rfl, HA, HJ13, ⟨mc13, rfl⟩⟩ := hcut
        cases kq with
        | zero => exact absurd HA.out (by simp [lex_Class.j3])
        | succ kj13 =>
          have H := HA.out
          clear HA
          simp only [lex_Class.j3] at H
          by_cases c18 : x27_13 = true
          · subst c18
            rw [if_pos rfl] at H
            obtain rfl := Option.some.inj H
            go_wp2
            go_ret
            exact ⟨by first | rfl | (simp; done) | (simp [*]; done), by repeat (first | exact Drawn0.refl _ | apply Drawn0.step)⟩
          replace c18 := Bool.eq_false_iff.mpr c18
          subst c18
          rw [if_neg qf] at H
          have HC19 := Aside0.mk H
          clear H
          go_upto_region 12 with (fail)
          go_cut [42] (fun v42 wc => ∃ (kq : Nat) (x42_18 : Bool), v42 = .bool x42_18 ∧ Aside0 (lex_Class.j4 kq a0 x42_18 = some r) ∧ Aside0 (kq ≤ kj13) ∧ Drawn0 w wc)
          case first =>
            have H := HC19.out
            clear HC19
            by_cases c20 : a0 ≥ 48
            · rw [if_pos c20] at H
              have c20b0 : decide (48 ≤ a0) = true := decide_eq_true c20
              clear c20
              (first | rw [c20b0] | (simp only [i64_w, i32_w]; rw [c20b0]) | skip)
              have H' := Aside0.mk H
              clear H
              go_wp2
              go_meet
              case rel => exact ⟨_, (decide (a0 ≤ 57)), qv, H', ⟨by have := HJ1.out; have := HJ6.out; have := HJ8.out; have := HJ13.out; first | omega | exact Nat.le_refl _⟩, by repeat (first | exact Drawn0.refl _ | apply Drawn0.step)⟩
            rw [if_neg c20] at H
            have c20b0 : decide (48 ≤ a0) = false := decide_eq_false c20
            clear c20
            (first | rw [c20b0] | (simp only [i64_w, i32_w]; rw [c20b0]) | skip)
            have H' := Aside0.mk H
            clear H
            go_wp2
            go_meet
            case rel => exact ⟨_, (false), qv, H', ⟨by have := HJ1.out; have := HJ6.out; have := HJ8.out; have := HJ13.out; first | omega | exact Nat.le_refl _⟩, by repeat (first | exact Drawn0.refl _ | apply Drawn0.step)⟩
          clear HC19
          obtain ⟨kq, x42_18, rfl, HA, HJ18, ⟨mc18, rfl⟩⟩ := hcut
          cases kq with
          | zero => exact absurd HA.out (by simp [lex_Class.j4])
          | succ kj18 =>
            have H := HA.out
            clear HA
            simp only [lex_Class.j4] at H
            by_cases c21 : x42_18 = true
            · subst c21
              rw [if_pos rfl] at H
              obtain rfl := Option.some.inj H
              go_wp2
              go_ret
              exact ⟨by first | rfl | (simp; done) | (simp [*]; done), by repeat (first | exact Drawn0.refl _ | apply Drawn0.step)⟩
            replace c21 := Bool.eq_false_iff.mpr c21
            subst c21
            rw [if_neg qf] at H
            by_cases c22 : a0 = 34
            · rw [if_pos c22] at H
              obtain ⟨c22b0, c22b1⟩ := qe c22
              clear c22
              obtain rfl := Option.some.inj H
              go_wp2
              go_ret
              exact ⟨by first | rfl | (simp; done) | (simp [*]; done), by repeat (first | exact Drawn0.refl _ | apply Drawn0.step)⟩
            rw [if_neg c22] at H
            obtain ⟨c22b0, c22b1⟩ := qd c22
            by_cases c23 : a0 = 35
            · rw [if_pos c23] at H
              obtain ⟨c23b0, c23b1⟩ := qe c23
              clear c23
              obtain rfl := Option.some.inj H
              go_wp2
              go_ret
              exact ⟨by first | rfl | (simp; done) | (simp [*]; done), by repeat (first | exact Drawn0.refl _ | apply Drawn0.step)⟩
            rw [if_neg c23] at H
            obtain ⟨c23b0, c23b1⟩ := qd c23
            by_cases c24 : a0 > 32
            · rw [if_pos c24] at H
              have c24b0 : decide (32 < a0) = true := decide_eq_true c24
              clear c24
              by_cases c25 : a0 < 127
              · rw [if_pos c25] at H
                have c25b0 : decide (a0 < 127) = true := decide_eq_true c25
                clear c25
                replace H := qi H
                obtain ⟨t101, A26, H⟩ := H
                by_cases c27 : t101 ≥ 0
                · rw [if_pos c27] at H
                  have c27b0 : decide (0 ≤ t101) = true := decide_eq_true c27
                  clear c27
                  obtain rfl := Option.some.inj H
                  go_wp2_with (first | (go_at_call 159; (with_reducible refine (strings_IndexByte.calls (⟨#[40, 41, 123, 125, 44, 59, 58, 61, 43, 45, 42, 47, 37, 60, 62, 33, 38, 124]⟩ : ByteArray) ((a0) % 256) t101 _ A26.out).mono ?_); rintro e w' ⟨rfl, ⟨nd, rfl⟩⟩))
                  go_ret
                  exact ⟨by first | rfl | (simp; done) | (simp [*]; done), by repeat (first | exact Drawn0.refl _ | apply Drawn0.step)⟩
                rw [if_neg c27] at H
                have c27b0 : decide (0 ≤ t101) = false := decide_eq_false c27
                clear c27
                obtain rfl := Option.some.inj H
                go_wp2_with (first | (go_at_call 159; (with_reducible refine (strings_IndexByte.calls (⟨#[40, 41, 123, 125, 44, 59, 58, 61, 43, 45, 42, 47, 37, 60, 62, 33, 38, 124]⟩ : ByteArray) ((a0) % 256) t101 _ A26.out).mono ?_); rintro e w' ⟨rfl, ⟨nd, rfl⟩⟩))
                go_ret
                exact ⟨by first | rfl | (simp; done) | (simp [*]; done), by repeat (first | exact Drawn0.refl _ | apply Drawn0.step)⟩
              rw [if_neg c25] at H
              have c25b0 : decide (a0 < 127) = false := decide_eq_false c25
              clear c25
              obtain rfl := Option.some.inj H
              go_wp2
              go_ret
              exact ⟨by first | rfl | (simp; done) | (simp [*]; done), by repeat (first | exact Drawn0.refl _ | apply Drawn0.step)⟩
            rw [if_neg c24] at H
            have c24b0 : decide (32 < a0) = false := decide_eq_false c24
            clear c24
            obtain rfl := Option.some.inj H
            go_wp2
            go_ret
            exact ⟨by first | rfl | (simp; done) | (simp [*]; done), by repeat (first | exact Drawn0.refl _ | apply Drawn0.step)⟩
theorem Class_j4 (k : Nat) (r : Int) (b : Bool) : ∃ c, lex_Class.j4 (k + 1) r b = some c := by
  simp only [lex_Class.j4, strings_IndexByte.f, Option.bind_some]
  repeat' split
  all_goals exact ⟨_, rfl⟩
theorem Class_j3 (k : Nat) (r : Int) (b : Bool) : ∃ c, lex_Class.j3 (k + 2) r b = some c := by
  simp only [lex_Class.j3]
  repeat' split
  all_goals first | exact ⟨_, rfl⟩ | exact Class_j4 _ _ _
theorem Class_j2 (k : Nat) (r : Int) (b : Bool) : ∃ c, lex_Class.j2 (k + 3) r b = some c := by
  simp only [lex_Class.j2]
  repeat' split
  all_goals first | exact ⟨_, rfl⟩ | exact Class_j3 _ _ _
theorem Class_j1 (k : Nat) (r : Int) (b : Bool) : ∃ c, lex_Class.j1 (k + 4) r b = some c := by
  simp only [lex_Class.j1]
  repeat' split
  all_goals exact Class_j2 _ _ _
theorem Class_j0 (k : Nat) (r : Int) (b : Bool) : ∃ c, lex_Class.j0 (k + 5) r b = some c := by
  simp only [lex_Class.j0]
  repeat' split
  all_goals first | exact ⟨_, rfl⟩ | exact Class_j1 _ _ _
theorem Class_total (r : Int) : ∃ c, lex_Class.f 5 r = some c := by
  unfold lex_Class.f
  repeat' split
  all_goals exact Class_j0 0 _ _
def classN (r : Int) : Int := (lex_Class.f 5 r).getD 0
theorem class_some (r : Int) : lex_Class.f 5 r = some (classN r) := by
  obtain ⟨c, h⟩ := Class_total r
  unfold classN
  rw [h]; rfl
def wordB (r : Int) : Bool := classN r == 2 || classN r == 3
def wordyFrom (s : ByteArray) : Nat → Nat → Bool
  | 0, _ => true
  | g + 1, pos => if pos < s.size then (if wordB ((Utf8.decode s pos).1 : Int) = true then wordyFrom s g (pos + (Utf8.decode s pos).2) else false) else true
theorem wordyFrom_end (s : ByteArray) (g pos : Nat) (h : ¬ pos < s.size) : wordyFrom s g pos = true := by
  cases g <;> simp [wordyFrom, h]
def lex_wordy.f (a0 : ByteArray) : Option Bool := some (wordyFrom a0 a0.size 0 && !a0.toList.isEmpty)
set_option maxHeartbeats 4000000 in
set_option maxRecDepth 100000 in
theorem lex_wordy.calls (a0 : ByteArray) (r : Bool) (w : World) (h : lex_wordy.f a0 = some r) :
    Calls Tryd.prog 119 #[.string a0] w fun e w' => e = .returned (.bool r) ∧ Below w.heap.size w w' := by
  obtain rfl := Option.some.inj h
  clear h
  obtain ⟨R, hR⟩ : ∃ R, wordyFrom a0 a0.size 0 = R := ⟨_, rfl⟩
  rw [hR]
  obtain ⟨n0, hn0⟩ : ∃ n0, n0 = a0.size := ⟨_, rfl⟩
  have HR := Aside0.mk hR
  clear hR
  go_enter Tryd.func119, Tryd.ntmps119
  go_wp2
  go_loopg [] a0.size (fun gf wx => ∃ pos : Nat, Aside0 (wx.heap[w.heap.size]? = some (.stringIter a0 pos)) ∧ Aside0 (Below w.heap.size w wx) ∧ Aside0 (wordyFrom a0 gf pos = R) ∧ Aside0 (a0.size ≤ pos + gf))
  case atStart => exact ⟨0, ⟨World.iter_heap w a0 0⟩, ⟨(Below.refl _ w).alloc (Nat.le_refl _) _⟩, HR, ⟨by omega⟩⟩
  case round =>
    obtain ⟨pos, hit, hbw, hleft, hfu⟩ := hrel
    by_cases hps : pos < a0.size
    · obtain ⟨g', rfl⟩ : ∃ g', gk = g' + 1 := ⟨gk - 1, by have := hfu.out; omega⟩
      have hnx : ∀ ty, (Instr.next (.pointer (some ⟨w.heap.size, 0, none⟩)) true ty).run Tryd.prog wr = _ := fun ty => Lib.run_next_any_at wr w.heap.size a0 pos ty hit.out hps
      have hwd := Lib.width_pos a0 pos
      obtain ⟨Q, hQ⟩ : ∃ Q, (Utf8.decode a0 pos).1 = Q := ⟨_, rfl⟩
      obtain ⟨K, hK⟩ : ∃ K, (Utf8.decode a0 pos).2 = K := ⟨_, rfl⟩
      have hl := hleft.out
      simp only [wordyFrom, hps, if_true, hQ, hK] at hl
      rw [hQ, hK] at hnx
      rw [hK] at hwd
      have hit2 := Aside0.mk (Lib.iterAt_heap wr w.heap.size a0 pos (pos + K) hit.out)
      have hbw2 := Aside0.mk (Lib.below_iterAt hbw.out (k := w.heap.size) (Nat.le_refl _) a0 (pos + K))
      have hfu2 : Aside0 (a0.size ≤ pos + K + g') := ⟨by have := hfu.out; omega⟩
      obtain ⟨W, hWd⟩ : ∃ W, wr.iterAt w.heap.size a0 (pos + K) = W := ⟨_, rfl⟩
      rw [hWd] at hnx hit2 hbw2
      obtain ⟨c, hc⟩ : ∃ c, classN (Q : Int) = c := ⟨_, rfl⟩
      have HC := Aside0.mk ((class_some (Q : Int)).trans (congrArg some hc))
      unfold wordB at hl
      rw [hc] at hl
      clear hit hbw hleft hfu hwd hWd hps hc hQ hK
      by_cases h2 : c = 2
      · subst h2
        have HL : Aside0 (wordyFrom a0 g' (pos + K) = R) := ⟨by simpa using hl⟩
        clear hl
        go_wp2_with (first | (go_at_call 149; refine (lex_Class.calls 5 _ 2 _ HC.out).mono ?_; rintro e w' ⟨rfl, ⟨nd, rfl⟩⟩))
        go_roundg g'
        case measure => omega
        case rel => exact ⟨pos + K, hit2, ⟨pw_below_drewN hbw2.out _⟩, HL, hfu2⟩
      by_cases h3 : c = 3
      · subst h3
        have HL : Aside0 (wordyFrom a0 g' (pos + K) = R) := ⟨by simpa using hl⟩
        clear hl
        go_wp2_with (first | (go_at_call 149; refine (lex_Class.calls 5 _ 3 _ HC.out).mono ?_; rintro e w' ⟨rfl, ⟨nd, rfl⟩⟩))
        go_roundg g'
        case measure => omega
        case rel => exact ⟨pos + K, hit2, ⟨pw_below_drewN hbw2.out _⟩, HL, hfu2⟩
      have HL : R = false := by simpa [h2, h3] using hl.symm
      subst HL
      have d2 : (c == 2) = false := beq_eq_false_iff_ne.mpr h2
      have d3 : (c == 3) = false := beq_eq_false_iff_ne.mpr h3
      have d4 : (c != 2) = true := bne_iff_ne.mpr h2
      have d5 : (c != 3) = true := bne_iff_ne.mpr h3
      clear hl h2 h3
      go_wp2_with (first | (go_at_call 149; refine (lex_Class.calls 5 _ c _ HC.out).mono ?_; rintro e w' ⟨rfl, ⟨nd, rfl⟩⟩))
      go_ret
      exact ⟨rfl, pw_below_drewN hbw2.out _⟩
    have hnx : ∀ ty, (Instr.next (.pointer (some ⟨w.heap.size, 0, none⟩)) true ty).run Tryd.prog wr = _ := fun ty => Lib.run_next_end_at wr w.heap.size a0 pos ty hit.out hps
    have HL : R = true := by rw [← hleft.out]; exact wordyFrom_end a0 gk pos hps
    subst HL
    clear hleft hfu hps
    go_wp2
    go_ret
    exact ⟨by first | rfl | (simp; done), hbw.out⟩
def utf8_RuneCountInString.f (a0 : ByteArray) : Option Int := if a0.size < 9223372036854775807 then some (Lib.runeCount a0 : Int) else none
theorem below_iter0 (w : World) (s : ByteArray) (pos : Nat) : Below w.heap.size w (w.iter s pos) := (Below.refl _ w).alloc (Nat.le_refl _) _
theorem utf8_RuneCountInString.calls (a0 : ByteArray) (r : Int) (w : World) (h : utf8_RuneCountInString.f a0 = some r) :
  Calls Tryd.prog 120 #[.string a0] w fun e w' => e = .returned (.int .i64 r) ∧ Below w.heap.size w w' := by
 unfold utf8_RuneCountInString.f at h
 split at h
 ·rename_i hs
  obtain rfl := Option.some.inj h
  exact (Tryd.utf8_RuneCountInString a0 w hs).mono fun e w' ⟨he, pos, hw⟩ => ⟨he, by rw [hw]; exact below_iter0 w a0 pos⟩
 cases h
def UT (w : World) : Prop := Lib.Utf8Tabs 0 1 w
theorem UT.below {w w' : World} (h : UT w) (hb : Below w.heap.size w w') : UT w' := Utf8Tabs_below h hb
def utf8_ValidString.f (a0 : ByteArray) : Option Bool := if a0.size < 9223372036854775807 then some (Lib.validD a0.data.toList) else none
theorem utf8_ValidString.calls (a0 : ByteArray) (r : Bool) (w : World) (h : utf8_ValidString.f a0 = some r) (hT : UT w) :
  Calls Tryd.prog 118 #[.string a0] w fun e w' => e = .returned (.bool r) ∧ Below w.heap.size w w' := by
 unfold utf8_ValidString.f at h
 split at h
 ·obtain rfl := Option.some.inj h
  exact Tryd.utf8_ValidString a0 w (by omega) hT
 cases h
end Go.Proofs.YtiaccdaeomaogaaDoor.F
