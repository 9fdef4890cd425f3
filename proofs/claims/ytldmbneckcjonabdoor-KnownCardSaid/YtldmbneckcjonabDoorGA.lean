/- Several texts in one: DERIVED: THE SHELF's CONTRACTS AT THIS DUMP, IN PLAIN WORDS (tools/lay-plain.mjs out of 'TrydShelf.lean', which tools/lay-shelf.mjs wrote): THE SAME DECLARATIONS UNDER THE SAME NAMES: ' · Arithmetic for the walks: masks, shifts and wraps at uint64 and int64. No program in sight. No conditions beyond those in each statement. · What the functions kindOf and Class of soft, and parts, kind and Class of softfloatref answer: for every uint64. · Plain numbers: the length in bits, the four words of a number below 2^256. No program in sight; each lemma states its own conditions. · wide.Len at four words: the length in bits. The argument is below 2^256. · math/bits.Add64 and Sub64 as laws of the call, and what they compute. Words and carries must be words and carries (IsW, IsC). · wide.Sub, Less, Add at four words. · Shifts of four words: plain arithmetic. · Shifts downward of four words: plain arithmetic. · Equality of two arrays of four words, as a law of the operation. · Bits set: plain arithmetic of 'or' and 'xor' at 64 bits. · wide.Less and Bit at four words. · wide.Mul: the product of two numbers of two words. · Division of two words by one, a half word at a time (Knuth's D): plain arithmetic. · What a block of four cells holds, kept over calls, draws, new blocks and stores. -/
import Derived.Shelf.Small.Bits
import Derived.Shelf.Strconv.Itoa0
import Derived.Shelf.Bits.Mul64
import Derived.WalkKit
import Derived.Laws.BitsAllLaws
import Derived.WalkSpells
import Derived.WalkLawsBesides
import Derived.Lib.BitFns
import Derived.Handy
import Derived.Shelf.Spec.BitsCarry
import Derived.RegionTactic
import Derived.BigRegion
import Derived.Deep.QuietTactic
import Derived.Deep.RegionHeld3
import Derived.Lib.Hide
import Derived.Test.YtldmbneckcjonabDoorChecked
set_option linter.unusedVariables false
set_option linter.unusedSimpArgs false
namespace Go.Proofs
open Go.Shelf
def Tryd.lays134_ren : Go.Shelf.Ren := ⟨fun | 134 => 53 | 129 => 57 | n => n, fun | 53 => 25 | 3 => 3 | 4 => 4 | 46 => 47 | 5 => 5 | 9 => 9 | n => n, fun | n => n⟩
theorem Tryd.lays134 : Go.Proofs.Lays.n134 Tryd.prog Tryd.lays134_ren := {
  mixed := by kernel_rfl
  f129 := Tryd.func57.trans (congrArg some (by kernel_rfl))
  f134 := Tryd.func53.trans (congrArg some (by kernel_rfl))
  t3 := Tryd.underlying3
  a3 := Tryd.isAgg3
  z3 := Tryd.sizeOf3
  v3 := Tryd.zeroValue3
  t4 := Tryd.underlying4
  a4 := Tryd.isAgg4
  z4 := Tryd.sizeOf4
  v4 := Tryd.zeroValue4
  t5 := Tryd.underlying5
  a5 := Tryd.isAgg5
  z5 := Tryd.sizeOf5
  v5 := Tryd.zeroValue5
  t9 := Tryd.underlying9
  a9 := Tryd.isAgg9
  z9 := Tryd.sizeOf9
  v9 := Tryd.zeroValue9
  t46 := Tryd.underlying47
  a46 := Tryd.isAgg47
  z46 := Tryd.sizeOf47
  v46 := Tryd.zeroValue47
  t53 := Tryd.underlying25
  a53 := Tryd.isAgg25
  z53 := Tryd.sizeOf25
  v53 := Tryd.zeroValue25 }
/-- bits.LeadingZeros64: "LeadingZeros64 returns the number of leading zero bits in x; the result is 64 for x == 0.": IT RETURNS '64 - Lib.bitLen x'; the world is as it was. ITS CALLEE bits.Len64 IS MET BY ITS OWN CONTRACT OFF THE SHELF (lay that first): entered in place it sends the kernel out of memory. (LAID: no walk: one application.) -/
theorem Tryd.bits_LeadingZeros64 (x : Int) (w : World) (h0 : 0 ≤ x) (h1 : x ≤ 18446744073709551615) :
    Calls Tryd.prog 53 #[.int .u64 x] w fun e w' => e = .returned (.int .i64 (64 - (Lib.bitLen x.toNat : Int))) ∧ w' = w := Any.bits_LeadingZeros64 Tryd.lays134 x w h0 h1
def Tryd.lays129_ren : Go.Shelf.Ren := ⟨fun | 129 => 57 | n => n, fun | 53 => 25 | 3 => 3 | 4 => 4 | 46 => 47 | 5 => 5 | 9 => 9 | n => n, fun | n => n⟩
theorem Tryd.lays129 : Go.Proofs.Lays.n129 Tryd.prog Tryd.lays129_ren := {
  mixed := by kernel_rfl
  f129 := Tryd.func57.trans (congrArg some (by kernel_rfl))
  t3 := Tryd.underlying3
  a3 := Tryd.isAgg3
  z3 := Tryd.sizeOf3
  v3 := Tryd.zeroValue3
  t4 := Tryd.underlying4
  a4 := Tryd.isAgg4
  z4 := Tryd.sizeOf4
  v4 := Tryd.zeroValue4
  t5 := Tryd.underlying5
  a5 := Tryd.isAgg5
  z5 := Tryd.sizeOf5
  v5 := Tryd.zeroValue5
  t9 := Tryd.underlying9
  a9 := Tryd.isAgg9
  z9 := Tryd.sizeOf9
  v9 := Tryd.zeroValue9
  t46 := Tryd.underlying47
  a46 := Tryd.isAgg47
  z46 := Tryd.sizeOf47
  v46 := Tryd.zeroValue47
  t53 := Tryd.underlying25
  a53 := Tryd.isAgg25
  z53 := Tryd.sizeOf25
  v53 := Tryd.zeroValue25 }
/-- bits.Len64: "Len64 returns the minimum number of bits required to represent x; the result is 0 for x == 0.": IT RETURNS 'Lib.bitLen x'; the world is as it was. ('h0', 'h1': x is a uint64.) (LAID: no walk: one application.) -/
theorem Tryd.bits_Len64 (x : Int) (w : World) (h0 : 0 ≤ x) (h1 : x ≤ 18446744073709551615) :
    Calls Tryd.prog 57 #[.int .u64 x] w fun e w' => e = .returned (.int .i64 (Lib.bitLen x.toNat)) ∧ w' = w := Any.bits_Len64 Tryd.lays129 x w h0 h1
def Tryd.lays264_ren : Go.Shelf.Ren := ⟨fun | 264 => 66 | n => n, fun | 53 => 25 | 46 => 47 | n => n, fun | n => n⟩
theorem Tryd.lays264 : Go.Proofs.Lays.n264 Tryd.prog Tryd.lays264_ren := {
  mixed := by kernel_rfl
  f264 := Tryd.func66.trans (congrArg some (by kernel_rfl))
  t46 := Tryd.underlying47
  a46 := Tryd.isAgg47
  z46 := Tryd.sizeOf47
  v46 := Tryd.zeroValue47
  t53 := Tryd.underlying25
  a53 := Tryd.isAgg25
  z53 := Tryd.sizeOf25
  v53 := Tryd.zeroValue25 }
open Go.RowKit Go.Lib in
theorem Tryd.bits_Mul64 (x y : Nat) (hx : x < 18446744073709551616) (hy : y < 18446744073709551616) (w : World) :
    Calls Tryd.prog 66 #[.int .u64 x, .int .u64 y] w fun e w' => e = .returned (.tuple #[.int .u64 ((x * y / 18446744073709551616 : Nat) : Int), .int .u64 ((x * y % 18446744073709551616 : Nat) : Int)]) ∧ w' = w := Any.bits_Mul64 Tryd.lays264 x y hx hy w
end Go.Proofs
namespace Go.Proofs.YtldmbneckcjonabDoor
open Go.RowKit
/-- x fits into 64 bits (a plain definition: the walk must not see the numeral). -/
def U64 (x : Nat) : Prop := x < 18446744073709551616
theorem U64.out {x : Nat} (h : U64 x) : x < 18446744073709551616 := h
/-- The law's own bound on a walk's steps, its numeral hidden. -/
def Few (k : Nat) : Prop := k < 1152921504606846976
def Many (k : Nat) : Prop := 1152921504606846976 ≤ k
theorem few_or (k : Nat) : Few k ∨ Many k := Nat.lt_or_ge _ _
theorem few_yes {k : Nat} (h : Few k) : ((k : Int) < 1152921504606846976) = True := eq_true (by unfold Few at h; omega)
theorem few_no {k : Nat} (h : Many k) : ((k : Int) < 1152921504606846976) = False := eq_false (by unfold Many at h; omega)
theorem ret_int {k : IntKind} {a b : Int} (h : a = b) : Ending.returned (.int k a) = .returned (.int k b) := by rw [h]
theorem ret_bool {a b : Bool} (h : a = b) : Ending.returned (.bool a) = .returned (.bool b) := by rw [h]
theorem ret3_int {k : IntKind} {a b c a' b' c' : Int} (h1 : a = a') (h2 : b = b') (h3 : c = c') : Ending.returned (.tuple #[.int k a, .int k b, .int k c]) = .returned (.tuple #[.int k a', .int k b', .int k c']) := by rw [h1, h2, h3]
theorem and_mask (a : Int) (k : Nat) (hk : k ≤ 64) : bits .and .u64 a ((2 ^ k - 1 : Nat) : Int) = a % ((2 ^ k : Nat) : Int) := by
  show IntKind.u64.wrap ((BitVec.ofInt 64 a &&& BitVec.ofInt 64 ((2 ^ k - 1 : Nat) : Int)).toNat : Int) = _
  have hle : 2 ^ k ≤ 2 ^ 64 := Nat.pow_le_pow_right (by decide) hk
  have hp : 0 < 2 ^ k := Nat.two_pow_pos k
  have h2 : (BitVec.ofInt 64 ((2 ^ k - 1 : Nat) : Int)).toNat = 2 ^ k - 1 := by
    rw [BitVec.ofInt_natCast, BitVec.toNat_ofNat]; exact Nat.mod_eq_of_lt (by omega)
  rw [BitVec.toNat_and, h2, Nat.and_two_pow_sub_one_eq_mod, BitVec.toNat_ofInt, IntKind.wrap_u64]
  have hn : 0 ≤ a % ((2 ^ 64 : Nat) : Int) := Int.emod_nonneg _ (by decide)
  have e1 : (((a % ((2 ^ 64 : Nat) : Int)).toNat % 2 ^ k : Nat) : Int) = a % ((2 ^ k : Nat) : Int) := by
    rw [Int.natCast_emod, Int.toNat_of_nonneg hn]
    exact Int.emod_emod_of_dvd _ (Int.natCast_dvd_natCast.2 (Nat.pow_dvd_pow 2 hk))
  rw [e1]
  have h0 := Int.emod_nonneg a (show ((2 ^ k : Nat) : Int) ≠ 0 by omega)
  have h1 := Int.emod_lt_of_pos a (show (0 : Int) < ((2 ^ k : Nat) : Int) by omega)
  exact Int.emod_eq_of_lt h0 (by omega)
theorem and_1 (a : Int) : bits .and .u64 a 1 = a % 2 := and_mask a 1 (by decide)
theorem and_2047 (a : Int) : bits .and .u64 a 2047 = a % 2048 := and_mask a 11 (by decide)
theorem and_f (a : Int) : bits .and .u64 a 4503599627370495 = a % 4503599627370496 := and_mask a 52 (by decide)
/-- A number's kind: 0 zero, 1 subnormal, 2 normal, 3 infinity, 4 quiet NaN, 5 signalling NaN. -/
def kindN (x : Nat) : Nat := if x / 4503599627370496 % 2048 = 0 then (if x % 4503599627370496 = 0 then 0 else 1) else if x / 4503599627370496 % 2048 < 2047 then 2 else if x % 4503599627370496 = 0 then 3 else if 2251799813685248 ≤ x % 4503599627370496 then 4 else 5
/-- A number's three parts. -/
@[irreducible] def sgnI (x : Nat) : Int := x / 9223372036854775808
@[irreducible] def expI (x : Nat) : Int := x / 4503599627370496 % 2048
@[irreducible] def fracI (x : Nat) : Int := x % 4503599627370496
def classN (x : Nat) : Nat := kindN x + x / 9223372036854775808 * 8
theorem kindN_lt (x : Nat) : kindN x < 6 := by unfold kindN; (repeat' split) <;> omega
end Go.Proofs.YtldmbneckcjonabDoor
namespace Go.Proofs.YtldmbneckcjonabDoor
open Go.RowKit
attribute [local go_sem] and_2047 and_f
set_option maxRecDepth 100000 in
set_option maxHeartbeats 400000 in
theorem kindOf_any (x : Nat) (w : World) :
    Calls Tryd.prog 15 #[.int .u64 x] w fun e w' => e = .returned (.int .i64 (kindN x)) ∧ w = w' := by
  go_enter Tryd.func15, Tryd.ntmps15
  go_wp2
  all_goals go_ret
  all_goals (refine ⟨ret_int ?_, rfl⟩; simp only [IntKind.wrap_u64, beq_iff_eq, beq_eq_false_iff_ne, ne_eq] at *; unfold kindN; repeat' split)
  all_goals omega
end Go.Proofs.YtldmbneckcjonabDoor
namespace Go.Proofs.YtldmbneckcjonabDoor
/-- How many bits n has. -/
@[irreducible] def bl (n : Nat) : Nat := if n = 0 then 0 else n.log2 + 1
theorem bl_zero : bl 0 = 0 := by unfold bl; rfl
theorem bl_le {n k : Nat} : bl n ≤ k ↔ n < 2 ^ k := by
  unfold bl
  split
  · rename_i h; subst h; simp [Nat.two_pow_pos]
  · rename_i h; rw [← Nat.log2_lt h]; omega
theorem lt_bl {n k : Nat} : k < bl n ↔ 2 ^ k ≤ n := by
  have := bl_le (n := n) (k := k); omega
theorem bl_eq {n k : Nat} (h1 : 2 ^ k ≤ n) (h2 : n < 2 ^ (k + 1)) : bl n = k + 1 := by
  have := lt_bl.2 h1; have := bl_le.2 h2; omega
theorem lt_two_bl (n : Nat) : n < 2 ^ bl n := bl_le.1 (Nat.le_refl _)
theorem two_bl_le {n : Nat} (h : n ≠ 0) : 2 ^ (bl n - 1) ≤ n := by
  have h0 : 0 < bl n := lt_bl.2 (by rw [Nat.pow_zero]; omega)
  exact lt_bl.1 (by omega)
theorem bl_pos {n : Nat} : 0 < bl n ↔ n ≠ 0 := by
  rw [lt_bl]; simp; omega
theorem bl_mono {a b : Nat} (h : a ≤ b) : bl a ≤ bl b := bl_le.2 (Nat.lt_of_le_of_lt h (lt_two_bl b))
theorem bl_half {n : Nat} (h : n ≠ 0) : bl n = 1 + bl (n / 2) := by
  by_cases h1 : n = 1
  · subst h1
    rw [show (1 : Nat) / 2 = 0 from rfl, bl_zero, bl_eq (k := 0) (by decide) (by decide)]
  · have h2 : n / 2 ≠ 0 := by omega
    have h3 := two_bl_le h2
    have h4 := lt_two_bl (n / 2)
    have h0 : 0 < bl (n / 2) := bl_pos.2 h2
    obtain ⟨k, hk⟩ : ∃ k, bl (n / 2) = k + 1 := ⟨bl (n / 2) - 1, by omega⟩
    rw [hk] at h3 h4 ⊢
    simp only [Nat.add_sub_cancel] at h3
    rw [bl_eq (k := k + 1) (by rw [Nat.pow_succ]; omega) (by rw [Nat.pow_succ]; omega)]
    omega
theorem bitLenAux_eq : ∀ (f x : Nat), x < 2 ^ f → Lib.bitLenAux f x = bl x
  | 0, x, h => by
    have : x = 0 := by simpa using h
    subst this; rw [bl_zero]; rfl
  | f + 1, x, h => by
    unfold Lib.bitLenAux
    split
    · rename_i h0; subst h0; rw [bl_zero]
    · rename_i h0
      rw [bl_half h0, bitLenAux_eq f (x / 2) (by rw [Nat.pow_succ] at h; omega)]
theorem bitLen_eq {x : Nat} (h : U64 x) : Lib.bitLen x = bl x := bitLenAux_eq 64 x h
theorem bl_shift {n k : Nat} (h : n ≠ 0) : bl (n * 2 ^ k) = bl n + k := by
  have h3 := two_bl_le h
  have h4 := lt_two_bl n
  have h0 : 0 < bl n := bl_pos.2 h
  obtain ⟨j, hj⟩ : ∃ j, bl n = j + 1 := ⟨bl n - 1, by omega⟩
  rw [hj] at h3 h4 ⊢
  simp only [Nat.add_sub_cancel] at h3
  rw [bl_eq (k := j + k)]
  · omega
  · rw [Nat.pow_add]; exact Nat.mul_le_mul_right _ h3
  · rw [show j + k + 1 = (j + 1) + k from by omega, Nat.pow_add]
    exact Nat.mul_lt_mul_of_pos_right h4 (Nat.two_pow_pos k)
/-- n / 2^(64 i) has the bits above: a word at place i that is the highest one not 0. -/
theorem bl_high {n k : Nat} (h : n / 2 ^ k ≠ 0) : bl n = bl (n / 2 ^ k) + k := by
  have h3 := two_bl_le h
  have h4 := lt_two_bl (n / 2 ^ k)
  have h0 : 0 < bl (n / 2 ^ k) := bl_pos.2 h
  obtain ⟨j, hj⟩ : ∃ j, bl (n / 2 ^ k) = j + 1 := ⟨bl (n / 2 ^ k) - 1, by omega⟩
  rw [hj] at h3 h4 ⊢
  simp only [Nat.add_sub_cancel] at h3
  rw [bl_eq (k := j + k)]
  · omega
  · rw [Nat.pow_add]
    exact Nat.le_trans (Nat.mul_le_mul_right _ h3) (Nat.div_mul_le_self n (2 ^ k))
  · rw [show j + k + 1 = (j + 1) + k from by omega, Nat.pow_add]
    exact (Nat.div_lt_iff_lt_mul (Nat.two_pow_pos k)).1 h4
/-- Word i of n. -/
@[irreducible] def wd (i n : Nat) : Nat := n / 2 ^ (64 * i) % 18446744073709551616
theorem wd_u64 (i n : Nat) : U64 (wd i n) := by unfold wd U64; omega
/-- n has at most four words. -/
def U256 (n : Nat) : Prop := n < 2 ^ 256
theorem U256.out {n : Nat} (h : U256 n) : n < 2 ^ 256 := h
abbrev W4 (n : Nat) : Value := .agg #[.int .u64 (wd 0 n), .int .u64 (wd 1 n), .int .u64 (wd 2 n), .int .u64 (wd 3 n)]
theorem wd0 (n : Nat) : wd 0 n = n % 18446744073709551616 := by unfold wd; simp
theorem wd1 (n : Nat) : wd 1 n = n / 18446744073709551616 % 18446744073709551616 := by unfold wd; rfl
theorem wd2 (n : Nat) : wd 2 n = n / 340282366920938463463374607431768211456 % 18446744073709551616 := by unfold wd; rfl
theorem wd3 (n : Nat) : wd 3 n = n / 6277101735386680763835789423207666416102355444464034512896 % 18446744073709551616 := by unfold wd; rfl
/-- The number of four words. -/
def of4 (a b c d : Nat) : Nat := a + 18446744073709551616 * b + 340282366920938463463374607431768211456 * c + 6277101735386680763835789423207666416102355444464034512896 * d
theorem of4_wd {n : Nat} (h : U256 n) : of4 (wd 0 n) (wd 1 n) (wd 2 n) (wd 3 n) = n := by
  have h := h.out; rw [wd0, wd1, wd2, wd3]; unfold of4; omega
theorem of4_lt {a b c d : Nat} (ha : U64 a) (hb : U64 b) (hc : U64 c) (hd : U64 d) : U256 (of4 a b c d) := by
  have := ha.out; have := hb.out; have := hc.out; have := hd.out; unfold of4 U256; omega
theorem wd_of4 {a b c d : Nat} (ha : U64 a) (hb : U64 b) (hc : U64 c) (hd : U64 d) : wd 0 (of4 a b c d) = a ∧ wd 1 (of4 a b c d) = b ∧ wd 2 (of4 a b c d) = c ∧ wd 3 (of4 a b c d) = d := by
  have := ha.out; have := hb.out; have := hc.out; have := hd.out; rw [wd0, wd1, wd2, wd3]; unfold of4; omega
/-- Four words that make n are n's. -/
theorem words_eq {n a b c d : Nat} (ha : U64 a) (hb : U64 b) (hc : U64 c) (hd : U64 d) (h : of4 a b c d = n) : W4 n = .agg #[.int .u64 a, .int .u64 b, .int .u64 c, .int .u64 d] := by
  subst h
  obtain ⟨h0, h1, h2, h3⟩ := wd_of4 ha hb hc hd
  unfold W4; rw [h0, h1, h2, h3]
theorem bl_3 {n : Nat} (h : U256 n) (h3 : wd 3 n ≠ 0) : bl n = 192 + bl (wd 3 n) := by
  have e : n / 2 ^ 192 = wd 3 n := by have := h.out; rw [wd3]; omega
  rw [← e] at h3 ⊢
  rw [bl_high h3]; omega
theorem bl_2 {n : Nat} (h : U256 n) (h3 : wd 3 n = 0) (h2 : wd 2 n ≠ 0) : bl n = 128 + bl (wd 2 n) := by
  have e : n / 2 ^ 128 = wd 2 n := by have := h.out; rw [wd3] at h3; rw [wd2]; omega
  rw [← e] at h2 ⊢
  rw [bl_high h2]; omega
theorem bl_1 {n : Nat} (h : U256 n) (h3 : wd 3 n = 0) (h2 : wd 2 n = 0) (h1 : wd 1 n ≠ 0) : bl n = 64 + bl (wd 1 n) := by
  have e : n / 2 ^ 64 = wd 1 n := by have := h.out; rw [wd3] at h3; rw [wd2] at h2; rw [wd1]; omega
  rw [← e] at h1 ⊢
  rw [bl_high h1]; omega
theorem bl_0 {n : Nat} (h : U256 n) (h3 : wd 3 n = 0) (h2 : wd 2 n = 0) (h1 : wd 1 n = 0) : n = wd 0 n := by
  have := h.out; rw [wd3] at h3; rw [wd2] at h2; rw [wd1] at h1; rw [wd0]; omega
theorem bl_word_le {x : Nat} (h : U64 x) : bl x ≤ 64 := bl_le.2 h
theorem bl_words {n : Nat} (h : U256 n) : (wd 3 n ≠ 0 → bl n = 192 + bl (wd 3 n)) ∧ (wd 3 n = 0 → wd 2 n ≠ 0 → bl n = 128 + bl (wd 2 n)) ∧ (wd 3 n = 0 → wd 2 n = 0 → wd 1 n ≠ 0 → bl n = 64 + bl (wd 1 n)) ∧ (wd 3 n = 0 → wd 2 n = 0 → wd 1 n = 0 → bl n = bl (wd 0 n)) ∧ (wd 3 n = 0 → wd 2 n = 0 → wd 1 n = 0 → wd 0 n = 0 → bl n = 0) :=
  ⟨bl_3 h, bl_2 h, bl_1 h, fun a b c => by rw [← bl_0 h a b c], fun a b c d => by rw [bl_0 h a b c, d, bl_zero]⟩
end Go.Proofs.YtldmbneckcjonabDoor
namespace Go.Proofs.YtldmbneckcjonabDoor
open Go.RowKit
theorem Len64_any (x : Nat) (hx : U64 x) (w : World) :
    Calls Tryd.prog 57 #[.int .u64 x] w fun e w' => e = .returned (.int .i64 (bl x)) ∧ w = w' :=
  (Tryd.bits_Len64 x w (by omega) (by have := hx.out; omega)).mono fun e w' ⟨h1, h2⟩ => ⟨by rw [h1, Int.toNat_natCast, bitLen_eq hx], h2.symm⟩
theorem LeadingZeros64_any (x : Nat) (hx : U64 x) (w : World) :
    Calls Tryd.prog 53 #[.int .u64 x] w fun e w' => e = .returned (.int .i64 (64 - (bl x : Int))) ∧ w = w' :=
  (Tryd.bits_LeadingZeros64 x w (by omega) (by have := hx.out; omega)).mono fun e w' ⟨h1, h2⟩ => ⟨by rw [h1, Int.toNat_natCast, bitLen_eq hx], h2.symm⟩
theorem nat_beq_false {a : Nat} (h : a ≠ 0) : ((a : Int) == 0) = false := by rw [beq_eq_false_iff_ne]; omega
set_option maxRecDepth 100000 in
set_option maxHeartbeats 400000 in
theorem Len_any (n : Nat) (hn : U256 n) (w : World) :
    Calls Tryd.prog 55 #[W4 n] w fun e w' => e = .returned (.int .i64 (bl n)) ∧ Below w.heap.size w w' := by
  have hb0 := bl_word_le (wd_u64 0 n)
  have hb1 := bl_word_le (wd_u64 1 n)
  have hb2 := bl_word_le (wd_u64 2 n)
  have hb3 := bl_word_le (wd_u64 3 n)
  go_enter Tryd.func55, Tryd.ntmps55
  go_wp2
  refine wp_loop_rounds 5 ?_
  iterate 5 (all_goals ((try rw [rounds_succ]); go_wp2_with (go_at_call 57; refine (Len64_any _ (wd_u64 _ _) _).mono ?_; rintro e w' ⟨rfl, rfl⟩)))
  all_goals go_ret
  all_goals (refine ⟨ret_int ?_, (Below.refl _ _).alloc (Nat.le_refl _) _⟩)
  all_goals (try simp only [beq_iff_eq, beq_eq_false_iff_ne, bne_iff_ne, bne_eq_false_iff_eq, ne_eq] at *); all_goals (have hw := bl_words hn)
  all_goals omega
end Go.Proofs.YtldmbneckcjonabDoor
namespace Go.Proofs.YtldmbneckcjonabDoor
open Go.RowKit
theorem bcell0 {W w1 : World} (hb : Below W.heap.size W w1) : (∀ b o, b < W.heap.size → w1.cell? ⟨b, o, none⟩ = W.cell? ⟨b, o, none⟩) ∧ (∀ b o, b < W.heap.size → w1.frozen? ⟨b, o, none⟩ = W.frozen? ⟨b, o, none⟩) :=
  ⟨fun b o h => hb.cell (p := ⟨b, o, none⟩) h, fun b o h => hb.frozen (p := ⟨b, o, none⟩) h⟩
/-- A word; a carry. -/
def IsW (x : Int) : Prop := 0 ≤ x ∧ x < 18446744073709551616
def IsC (c : Int) : Prop := c = 0 ∨ c = 1
@[irreducible] def adS (x y c : Int) : Int := (x + y + c) % 18446744073709551616
@[irreducible] def adC (x y c : Int) : Int := if 18446744073709551616 ≤ x + y + c then 1 else 0
@[irreducible] def sbD (x y b : Int) : Int := (x + 18446744073709551616 - y - b) % 18446744073709551616
@[irreducible] def sbB (x y b : Int) : Int := if x < y + b then 1 else 0
theorem isW_of {x : Nat} (h : U64 x) : IsW x := by have := h.out; exact ⟨by omega, by omega⟩
theorem isW_wd (i n : Nat) : IsW (wd i n) := isW_of (wd_u64 i n)
theorem isW_zero : IsW 0 := by unfold IsW; omega
theorem isW_one : IsW 1 := by unfold IsW; omega
theorem isC_zero : IsC 0 := .inl rfl
theorem isW_adS (x y c : Int) : IsW (adS x y c) := by unfold IsW adS; omega
theorem isC_adC (x y c : Int) : IsC (adC x y c) := by unfold IsC adC; split <;> simp
theorem isW_sbD (x y b : Int) : IsW (sbD x y b) := by unfold IsW sbD; omega
theorem isC_sbB (x y b : Int) : IsC (sbB x y b) := by unfold IsC sbB; split <;> simp
theorem call_Add64 {x y c : Int} (hx : IsW x) (hy : IsW y) (hc : IsC c) (w : World) :
    (callFunc 67 #[.int .u64 x, .int .u64 y, .int .u64 c]).run Tryd.prog w = .ok (.value (.tuple #[.int .u64 (adS x y c), .int .u64 (adC x y c)])) w := by
  rw [run_callFunc_extern Tryd.func67 (by kernel_rfl) (by kernel_rfl) (by kernel_rfl) (e := add64Entry) (by kernel_rfl)]
  obtain ⟨x0, x1⟩ := hx
  obtain ⟨y0, y1⟩ := hy
  rw [run_add64 x y c x0 y0 (by rcases hc with h | h <;> omega) (by rcases hc with h | h <;> omega)]
  simp only [Result.andThen]
  have e1 : (x + y + c) / 18446744073709551616 = adC x y c := by unfold adC; split <;> (rcases hc with h | h <;> omega)
  have e2 : (x + y + c) % 18446744073709551616 = adS x y c := by unfold adS; rfl
  rw [e1, e2]
theorem call_Sub64 {x y b : Int} (hx : IsW x) (hy : IsW y) (hb : IsC b) (w : World) :
    (callFunc 69 #[.int .u64 x, .int .u64 y, .int .u64 b]).run Tryd.prog w = .ok (.value (.tuple #[.int .u64 (sbD x y b), .int .u64 (sbB x y b)])) w := by
  rw [run_callFunc_extern Tryd.func69 (by kernel_rfl) (by kernel_rfl) (by kernel_rfl) (e := sub64Entry) (by kernel_rfl)]
  obtain ⟨x0, x1⟩ := hx
  obtain ⟨y0, y1⟩ := hy
  obtain ⟨X, rfl⟩ := Int.eq_ofNat_of_zero_le x0
  obtain ⟨Y, rfl⟩ := Int.eq_ofNat_of_zero_le y0
  obtain ⟨B, rfl⟩ : ∃ B : Nat, b = B := ⟨b.toNat, by rcases hb with h | h <;> subst h <;> rfl⟩
  have hB : B ≤ 1 := by rcases hb with h | h <;> omega
  rw [run_sub64 X Y B hB]
  simp only [Result.andThen]
  have e1 : ((if X < Y + B then 1 else 0 : Nat) : Int) = sbB X Y B := by unfold sbB; split <;> split <;> omega
  have e2 : (((X + 18446744073709551616 - Y - B) % 18446744073709551616 : Nat) : Int) = sbD X Y B := by unfold sbD; omega
  rw [e1, e2]
theorem sb_spec {x y b : Int} (hx : IsW x) (hy : IsW y) (hb : IsC b) : sbD x y b = x - y - b + 18446744073709551616 * sbB x y b := by
  obtain ⟨x0, x1⟩ := hx
  obtain ⟨y0, y1⟩ := hy
  unfold sbD sbB; split <;> (rcases hb with h | h <;> omega)
theorem ad_spec {x y c : Int} (hx : IsW x) (hy : IsW y) (hc : IsC c) : adS x y c = x + y + c - 18446744073709551616 * adC x y c := by
  obtain ⟨x0, x1⟩ := hx
  obtain ⟨y0, y1⟩ := hy
  unfold adS adC; split <;> (rcases hc with h | h <;> omega)
/-- Four words, as integers, that make n are n's. -/
theorem wordsI {n : Nat} {a b c d : Int} (ha : IsW a) (hb : IsW b) (hc : IsW c) (hd : IsW d)
    (h : a + 18446744073709551616 * b + 340282366920938463463374607431768211456 * c + 6277101735386680763835789423207666416102355444464034512896 * d = n) : W4 n = .agg #[.int .u64 a, .int .u64 b, .int .u64 c, .int .u64 d] := by
  obtain ⟨a0, a1⟩ := ha
  obtain ⟨b0, b1⟩ := hb
  obtain ⟨c0, c1⟩ := hc
  obtain ⟨d0, d1⟩ := hd
  obtain ⟨A, rfl⟩ := Int.eq_ofNat_of_zero_le a0
  obtain ⟨B, rfl⟩ := Int.eq_ofNat_of_zero_le b0
  obtain ⟨C, rfl⟩ := Int.eq_ofNat_of_zero_le c0
  obtain ⟨D, rfl⟩ := Int.eq_ofNat_of_zero_le d0
  exact words_eq (show A < 18446744073709551616 by omega) (show B < 18446744073709551616 by omega) (show C < 18446744073709551616 by omega) (show D < 18446744073709551616 by omega) (by unfold of4; omega)
theorem of4I {n : Nat} (h : U256 n) : (wd 0 n : Int) + 18446744073709551616 * wd 1 n + 340282366920938463463374607431768211456 * wd 2 n + 6277101735386680763835789423207666416102355444464034512896 * wd 3 n = n := by
  have := of4_wd h; unfold of4 at this; omega
/-- The difference of two numbers, in four words. -/
@[irreducible] def subN (a b : Nat) : Nat := (a + 2 ^ 256 - b) % 2 ^ 256
theorem subN_le {a b : Nat} (ha : U256 a) (h : b ≤ a) : subN a b = a - b := by have := ha.out; unfold subN; omega
theorem subN_u256 (a b : Nat) : U256 (subN a b) := by unfold subN U256; omega
theorem sub_math {a b : Nat} (ha : U256 a) (hb : U256 b) :
    W4 (subN a b) = .agg #[.int .u64 (sbD (wd 0 a) (wd 0 b) 0), .int .u64 (sbD (wd 1 a) (wd 1 b) (sbB (wd 0 a) (wd 0 b) 0)), .int .u64 (sbD (wd 2 a) (wd 2 b) (sbB (wd 1 a) (wd 1 b) (sbB (wd 0 a) (wd 0 b) 0))),
      .int .u64 (sbD (wd 3 a) (wd 3 b) (sbB (wd 2 a) (wd 2 b) (sbB (wd 1 a) (wd 1 b) (sbB (wd 0 a) (wd 0 b) 0))))] ∧
    (sbB (wd 3 a) (wd 3 b) (sbB (wd 2 a) (wd 2 b) (sbB (wd 1 a) (wd 1 b) (sbB (wd 0 a) (wd 0 b) 0))) == 1) = decide (a < b) := by
  have ea := of4I ha
  have eb := of4I hb
  have la := ha.out
  have lb := hb.out
  have c0 := isC_sbB (wd 0 a) (wd 0 b) 0
  have s0 := sb_spec (isW_wd 0 a) (isW_wd 0 b) isC_zero
  have c1 := isC_sbB (wd 1 a) (wd 1 b) (sbB (wd 0 a) (wd 0 b) 0)
  have s1 := sb_spec (isW_wd 1 a) (isW_wd 1 b) c0
  have c2 := isC_sbB (wd 2 a) (wd 2 b) (sbB (wd 1 a) (wd 1 b) (sbB (wd 0 a) (wd 0 b) 0))
  have s2 := sb_spec (isW_wd 2 a) (isW_wd 2 b) c1
  have c3 := isC_sbB (wd 3 a) (wd 3 b) (sbB (wd 2 a) (wd 2 b) (sbB (wd 1 a) (wd 1 b) (sbB (wd 0 a) (wd 0 b) 0)))
  have s3 := sb_spec (isW_wd 3 a) (isW_wd 3 b) c2
  have w0 := isW_sbD (wd 0 a) (wd 0 b) 0
  have w1 := isW_sbD (wd 1 a) (wd 1 b) (sbB (wd 0 a) (wd 0 b) 0)
  have w2 := isW_sbD (wd 2 a) (wd 2 b) (sbB (wd 1 a) (wd 1 b) (sbB (wd 0 a) (wd 0 b) 0))
  have w3 := isW_sbD (wd 3 a) (wd 3 b) (sbB (wd 2 a) (wd 2 b) (sbB (wd 1 a) (wd 1 b) (sbB (wd 0 a) (wd 0 b) 0)))
  refine ⟨wordsI w0 w1 w2 w3 ?_, ?_⟩
  · unfold subN; unfold IsW at w0 w1 w2 w3; unfold IsC at c3
    omega
  · unfold IsW at w0 w1 w2 w3
    rcases c3 with h | h <;> rw [h] at s3 ⊢
    · rw [decide_eq_false (by omega)]; rfl
    · rw [decide_eq_true (by omega)]; rfl
theorem add_math {a b : Nat} (ha : U256 a) (hb : U256 b) (h : U256 (a + b)) :
    W4 (a + b) = .agg #[.int .u64 (adS (wd 0 a) (wd 0 b) 0), .int .u64 (adS (wd 1 a) (wd 1 b) (adC (wd 0 a) (wd 0 b) 0)), .int .u64 (adS (wd 2 a) (wd 2 b) (adC (wd 1 a) (wd 1 b) (adC (wd 0 a) (wd 0 b) 0))),
      .int .u64 (adS (wd 3 a) (wd 3 b) (adC (wd 2 a) (wd 2 b) (adC (wd 1 a) (wd 1 b) (adC (wd 0 a) (wd 0 b) 0))))] := by
  have ea := of4I ha
  have eb := of4I hb
  have la := h.out
  have c0 := isC_adC (wd 0 a) (wd 0 b) 0
  have s0 := ad_spec (isW_wd 0 a) (isW_wd 0 b) isC_zero
  have c1 := isC_adC (wd 1 a) (wd 1 b) (adC (wd 0 a) (wd 0 b) 0)
  have s1 := ad_spec (isW_wd 1 a) (isW_wd 1 b) c0
  have c2 := isC_adC (wd 2 a) (wd 2 b) (adC (wd 1 a) (wd 1 b) (adC (wd 0 a) (wd 0 b) 0))
  have s2 := ad_spec (isW_wd 2 a) (isW_wd 2 b) c1
  have c3 := isC_adC (wd 3 a) (wd 3 b) (adC (wd 2 a) (wd 2 b) (adC (wd 1 a) (wd 1 b) (adC (wd 0 a) (wd 0 b) 0)))
  have s3 := ad_spec (isW_wd 3 a) (isW_wd 3 b) c2
  have w0 := isW_adS (wd 0 a) (wd 0 b) 0
  have w1 := isW_adS (wd 1 a) (wd 1 b) (adC (wd 0 a) (wd 0 b) 0)
  have w2 := isW_adS (wd 2 a) (wd 2 b) (adC (wd 1 a) (wd 1 b) (adC (wd 0 a) (wd 0 b) 0))
  have w3 := isW_adS (wd 3 a) (wd 3 b) (adC (wd 2 a) (wd 2 b) (adC (wd 1 a) (wd 1 b) (adC (wd 0 a) (wd 0 b) 0)))
  refine wordsI w0 w1 w2 w3 ?_
  unfold IsW at w0 w1 w2 w3; unfold IsC at c3
  omega
end Go.Proofs.YtldmbneckcjonabDoor
namespace Go.Proofs.YtldmbneckcjonabDoor
open Go.RowKit
attribute [local go_sem] call_Add64 call_Sub64 isW_wd isW_zero isC_zero isW_adS isC_adC isW_sbD isC_sbB
set_option maxRecDepth 100000 in
set_option maxHeartbeats 400000 in
theorem Sub_any (a b : Nat) (ha : U256 a) (hb : U256 b) (w : World) :
    Calls Tryd.prog 65 #[W4 a, W4 b] w fun e w' => e = .returned (.tuple #[W4 (subN a b), .bool (decide (a < b))]) ∧ Below w.heap.size w w' := by
  go_enter Tryd.func65, Tryd.ntmps65
  go_wp2
  refine wp_loop_rounds 5 ?_
  rw [rounds_succ]
  go_wp2
  go_region
  go_wp2
  rw [rounds_succ]
  go_wp2
  go_region
  go_wp2
  rw [rounds_succ]
  go_wp2
  go_region
  go_wp2
  rw [rounds_succ]
  go_wp2
  go_region
  go_wp2
  rw [rounds_succ]
  go_wp2
  obtain ⟨e1, e2⟩ := sub_math ha hb
  rw [e1, ← e2]
  refine bodyPost_ret (v := .tuple #[.agg #[_, _, _, _], .bool _]) (by simp [results, Tryd.results65, go_sem]) rfl ⟨rfl, ?_⟩
  repeat (first | exact Below.refl _ _ | refine Below.drew ?_ | refine Below.alloc ?_ (by first | omega | (simp; done) | (simp; omega)) _ | refine Below.setCell ?_ (by first | omega | (simp; done) | (simp; omega)) _)
set_option maxRecDepth 100000 in
set_option maxHeartbeats 400000 in
theorem Add_any (a b : Nat) (ha : U256 a) (hb : U256 b) (h : U256 (a + b)) (w : World) :
    Calls Tryd.prog 64 #[W4 a, W4 b] w fun e w' => e = .returned (W4 (a + b)) ∧ Below w.heap.size w w' := by
  go_enter Tryd.func64, Tryd.ntmps64
  go_wp2
  refine wp_loop_rounds 5 ?_
  rw [rounds_succ]
  go_wp2
  go_region
  go_wp2
  rw [rounds_succ]
  go_wp2
  go_region
  go_wp2
  rw [rounds_succ]
  go_wp2
  go_region
  go_wp2
  rw [rounds_succ]
  go_wp2
  go_region
  go_wp2
  rw [rounds_succ]
  go_wp2
  rw [add_math ha hb h]
  refine bodyPost_ret (v := .agg #[_, _, _, _]) (by simp [results, Tryd.results64, go_sem]) rfl ⟨rfl, ?_⟩
  repeat (first | exact Below.refl _ _ | refine Below.drew ?_ | refine Below.alloc ?_ (by first | omega | (simp; done) | (simp; omega)) _ | refine Below.setCell ?_ (by first | omega | (simp; done) | (simp; omega)) _)
end Go.Proofs.YtldmbneckcjonabDoor
namespace Go.Proofs.YtldmbneckcjonabDoor
theorem two_split {r : Nat} (h : r < 64) : 2 ^ r * 2 ^ (64 - r) = 18446744073709551616 := by
  rw [← Nat.pow_add, show r + (64 - r) = 64 from by omega]
/-- What stays of a word that is moved up by r, and what goes on to the next one. -/
@[irreducible] def sL (x r : Nat) : Nat := x * 2 ^ r % 18446744073709551616
@[irreducible] def sH (x r : Nat) : Nat := x / 2 ^ (64 - r)
@[irreducible] def sLH (x y r : Nat) : Nat := sL x r + sH y r
theorem s_spec {x r : Nat} (h : r < 64) : x * 2 ^ r = sL x r + 18446744073709551616 * sH x r := by
  unfold sL sH
  have e : x * 2 ^ r / 18446744073709551616 = x / 2 ^ (64 - r) := by
    rw [← two_split h, Nat.mul_comm (2 ^ r) (2 ^ (64 - r)), Nat.mul_div_mul_right _ _ (Nat.two_pow_pos r)]
  rw [← e]; omega
theorem sL_lt (x r : Nat) : sL x r < 18446744073709551616 := by unfold sL; exact Nat.mod_lt _ (by decide)
theorem sL_mod {x r : Nat} (h : r < 64) : sL x r % 2 ^ r = 0 := by
  unfold sL
  have hd : 2 ^ r ∣ 18446744073709551616 := ⟨2 ^ (64 - r), (two_split h).symm⟩
  exact Nat.mod_eq_zero_of_dvd ((Nat.dvd_mod_iff hd).2 (Nat.dvd_mul_left _ _))
theorem sH_lt {x r : Nat} (hx : U64 x) (h : r < 64) : sH x r < 2 ^ r := by
  unfold sH
  rw [Nat.div_lt_iff_lt_mul (Nat.two_pow_pos _), two_split h]
  exact hx.out
theorem pow_le64 {r : Nat} (h : r < 64) : 2 ^ r ≤ 9223372036854775808 := Nat.pow_le_pow_right (n := 2) (j := 63) (by decide) (by omega)
theorem sH_lt64 {x r : Nat} (hx : U64 x) (h : r < 64) : sH x r < 18446744073709551616 := by
  have := sH_lt hx h; have := pow_le64 h; omega
theorem sLH_lt {x y r : Nat} (hy : U64 y) (h : r < 64) : sL x r + sH y r < 18446744073709551616 := by
  have h1 := sL_lt x r
  have h2 := sL_mod (x := x) h
  have h3 := sH_lt hy h
  have hd : 2 ^ r * 2 ^ (64 - r) = 18446744073709551616 := two_split h
  have h4 : 2 ^ r * (sL x r / 2 ^ r) = sL x r := Nat.mul_div_cancel' (Nat.dvd_of_mod_eq_zero h2)
  have h5 : sL x r / 2 ^ r < 2 ^ (64 - r) := by
    rw [Nat.div_lt_iff_lt_mul (Nat.two_pow_pos _), Nat.mul_comm, hd]; exact h1
  have h6 : 2 ^ r * (sL x r / 2 ^ r + 1) ≤ 2 ^ r * 2 ^ (64 - r) := Nat.mul_le_mul_left _ h5
  rw [Nat.mul_add, h4, hd] at h6
  omega
theorem wrap_sL (x r : Nat) : IntKind.u64.wrap ((x : Int) * 2 ^ r) = (sL x r : Nat) := by
  rw [IntKind.wrap_u64]; unfold sL; simp
theorem div_sH (x r : Nat) : (x : Int) / 2 ^ (64 - r) = (sH x r : Nat) := by
  unfold sH; simp
theorem or_sLH {x y r : Nat} (hy : U64 y) (h : r < 64) : bits .or .u64 (sL x r : Nat) (sH y r : Nat) = (sLH x y r : Nat) := by
  unfold sLH
  rw [u64_or_nat _ _ (sL_lt x r) (sH_lt64 hy h), nat_join r _ _ (sL_mod h) (sH_lt hy h)]
/-- Downward: x / 2^r, and what comes from the next word y. -/
theorem div_down {x r : Nat} (h0 : 0 < r) (h : r < 64) : (x : Int) / 2 ^ r = (sH x (64 - r) : Nat) := by
  have := div_sH x (64 - r); rwa [show 64 - (64 - r) = r from by omega] at this
theorem or_down {x y r : Nat} (hx : U64 x) (h0 : 0 < r) (h : r < 64) : bits .or .u64 (sH x (64 - r) : Nat) (sL y (64 - r) : Nat) = (sLH y x (64 - r) : Nat) := by
  unfold sLH
  rw [u64_or_nat _ _ (sH_lt64 hx (by omega)) (sL_lt y _), Nat.or_comm, nat_join (64 - r) _ _ (sL_mod (by omega)) (sH_lt hx (by omega))]
theorem of4_mul {a p : Nat} (h : U256 a) : a * p = wd 0 a * p + 18446744073709551616 * (wd 1 a * p) + 340282366920938463463374607431768211456 * (wd 2 a * p) + 6277101735386680763835789423207666416102355444464034512896 * (wd 3 a * p) := by
  conv => lhs; rw [← of4_wd h]
  unfold of4
  simp only [Nat.add_mul, Nat.mul_assoc]
theorem u64_add {a b : Nat} (h : a + b < 18446744073709551616) : U64 (a + b) := h
section
variable {a r : Nat} (ha : U256 a) (hr : r < 64)
include ha hr
theorem shl_0 : W4 (a * 2 ^ (0 + r) % 2 ^ 256) = .agg #[.int .u64 (sL (wd 0 a) r), .int .u64 (sLH (wd 1 a) (wd 0 a) r), .int .u64 (sLH (wd 2 a) (wd 1 a) r), .int .u64 (sLH (wd 3 a) (wd 2 a) r)] := by
  refine words_eq (sL_lt _ _) (by unfold sLH; exact sLH_lt (wd_u64 _ _) hr) (by unfold sLH; exact sLH_lt (wd_u64 _ _) hr) (by unfold sLH; exact sLH_lt (wd_u64 _ _) hr) ?_
  have e := of4_mul (p := 2 ^ r) ha
  rw [s_spec (x := wd 0 a) hr, s_spec (x := wd 1 a) hr, s_spec (x := wd 2 a) hr, s_spec (x := wd 3 a) hr] at e
  have l0 := sL_lt (wd 0 a) r
  have l1 := sLH_lt (x := wd 1 a) (wd_u64 0 a) hr
  have l2 := sLH_lt (x := wd 2 a) (wd_u64 1 a) hr
  have l3 := sLH_lt (x := wd 3 a) (wd_u64 2 a) hr
  rw [Nat.zero_add, e]; unfold of4 sLH; omega
theorem shl_1 : W4 (a * 2 ^ (64 + r) % 2 ^ 256) = .agg #[.int .u64 0, .int .u64 (sL (wd 0 a) r), .int .u64 (sLH (wd 1 a) (wd 0 a) r), .int .u64 (sLH (wd 2 a) (wd 1 a) r)] := by
  refine words_eq (a := 0) (show 0 < 18446744073709551616 by decide) (sL_lt _ _) (by unfold sLH; exact sLH_lt (wd_u64 _ _) hr) (by unfold sLH; exact sLH_lt (wd_u64 _ _) hr) ?_
  have e := of4_mul (p := 2 ^ r) ha
  rw [s_spec (x := wd 0 a) hr, s_spec (x := wd 1 a) hr, s_spec (x := wd 2 a) hr, s_spec (x := wd 3 a) hr] at e
  have l0 := sL_lt (wd 0 a) r
  have l1 := sLH_lt (x := wd 1 a) (wd_u64 0 a) hr
  have l2 := sLH_lt (x := wd 2 a) (wd_u64 1 a) hr
  have l3 := sLH_lt (x := wd 3 a) (wd_u64 2 a) hr
  rw [Nat.pow_add, ← Nat.mul_assoc, Nat.mul_right_comm, e]; unfold of4 sLH; omega
theorem shl_2 : W4 (a * 2 ^ (128 + r) % 2 ^ 256) = .agg #[.int .u64 0, .int .u64 0, .int .u64 (sL (wd 0 a) r), .int .u64 (sLH (wd 1 a) (wd 0 a) r)] := by
  refine words_eq (a := 0) (b := 0) (show 0 < 18446744073709551616 by decide) (show 0 < 18446744073709551616 by decide) (sL_lt _ _) (by unfold sLH; exact sLH_lt (wd_u64 _ _) hr) ?_
  have e := of4_mul (p := 2 ^ r) ha
  rw [s_spec (x := wd 0 a) hr, s_spec (x := wd 1 a) hr, s_spec (x := wd 2 a) hr, s_spec (x := wd 3 a) hr] at e
  have l0 := sL_lt (wd 0 a) r
  have l1 := sLH_lt (x := wd 1 a) (wd_u64 0 a) hr
  have l2 := sLH_lt (x := wd 2 a) (wd_u64 1 a) hr
  have l3 := sLH_lt (x := wd 3 a) (wd_u64 2 a) hr
  rw [Nat.pow_add, ← Nat.mul_assoc, Nat.mul_right_comm, e]; unfold of4 sLH; omega
theorem shl_3 : W4 (a * 2 ^ (192 + r) % 2 ^ 256) = .agg #[.int .u64 0, .int .u64 0, .int .u64 0, .int .u64 (sL (wd 0 a) r)] := by
  refine words_eq (a := 0) (b := 0) (c := 0) (show 0 < 18446744073709551616 by decide) (show 0 < 18446744073709551616 by decide) (show 0 < 18446744073709551616 by decide) (sL_lt _ _) ?_
  have e := of4_mul (p := 2 ^ r) ha
  rw [s_spec (x := wd 0 a) hr, s_spec (x := wd 1 a) hr, s_spec (x := wd 2 a) hr, s_spec (x := wd 3 a) hr] at e
  have l0 := sL_lt (wd 0 a) r
  rw [Nat.pow_add, ← Nat.mul_assoc, Nat.mul_right_comm, e]; unfold of4; omega
end
theorem wrap_wd (i n : Nat) : IntKind.u64.wrap (wd i n) = wd i n := by have := (wd_u64 i n).out; rw [IntKind.wrap_u64]; omega
theorem sL_0 {x : Nat} (h : U64 x) : sL x 0 = x := by have := h.out; unfold sL; omega
theorem sH_0 {x : Nat} (h : U64 x) : sH x 0 = 0 := by have := h.out; unfold sH; omega
theorem sLH_0 {x y : Nat} (h : U64 x) (hy : U64 y) : sLH x y 0 = x := by unfold sLH; rw [sL_0 h, sH_0 hy]; omega
theorem shl_big (a : Nat) {k : Nat} (h : 256 ≤ k) : W4 (a * 2 ^ k % 2 ^ 256) = .agg #[.int .u64 0, .int .u64 0, .int .u64 0, .int .u64 0] := by
  rw [show a * 2 ^ k % 2 ^ 256 = 0 from Nat.mod_eq_zero_of_dvd (Nat.dvd_trans (Nat.pow_dvd_pow 2 h) (Nat.dvd_mul_left _ _))]
  exact words_eq (a := 0) (b := 0) (c := 0) (d := 0) (show 0 < 18446744073709551616 by decide) (show 0 < 18446744073709551616 by decide) (show 0 < 18446744073709551616 by decide) (show 0 < 18446744073709551616 by decide) rfl
/-- What Shl gives. -/
@[irreducible] def shlN (a k : Nat) : Nat := a * 2 ^ k % 2 ^ 256
theorem shlN_def (a k : Nat) : shlN a k = a * 2 ^ k % 2 ^ 256 := by unfold shlN; rfl
theorem shlN_u256 (a k : Nat) : U256 (shlN a k) := by unfold shlN U256; exact Nat.mod_lt _ (by decide)
theorem shlN_eq {a k : Nat} (h : U256 (a * 2 ^ k)) : shlN a k = a * 2 ^ k := by unfold shlN; exact Nat.mod_eq_of_lt h
end Go.Proofs.YtldmbneckcjonabDoor
namespace Go.Proofs.YtldmbneckcjonabDoor
theorem sH_word {x r : Nat} (hx : U64 x) (h : r < 64) : U64 (sH x r) := sH_lt64 hx h
theorem sLH_word {x y r : Nat} (hy : U64 y) (h : r < 64) : U64 (sLH x y r) := by unfold sLH; exact sLH_lt hy h
section
variable {a r : Nat} (ha : U256 a) (h0 : 0 < r) (hr : r < 64)
include ha h0 hr
theorem shr_core : a / 2 ^ r = sLH (wd 1 a) (wd 0 a) (64 - r) + 18446744073709551616 * sLH (wd 2 a) (wd 1 a) (64 - r) + 340282366920938463463374607431768211456 * sLH (wd 3 a) (wd 2 a) (64 - r) + 6277101735386680763835789423207666416102355444464034512896 * sH (wd 3 a) (64 - r) := by
  have hs : 64 - r < 64 := by omega
  have e := of4_mul (p := 2 ^ (64 - r)) ha
  rw [s_spec (x := wd 0 a) hs, s_spec (x := wd 1 a) hs, s_spec (x := wd 2 a) hs, s_spec (x := wd 3 a) hs] at e
  have l0 := sL_lt (wd 0 a) (64 - r)
  have e2 : a / 2 ^ r = a * 2 ^ (64 - r) / 18446744073709551616 := by
    rw [← two_split hr, Nat.mul_div_mul_right _ _ (Nat.two_pow_pos _)]
  rw [e2, e]; unfold sLH; omega
theorem shr_0 : W4 (a / 2 ^ (0 + r)) = .agg #[.int .u64 (sLH (wd 1 a) (wd 0 a) (64 - r)), .int .u64 (sLH (wd 2 a) (wd 1 a) (64 - r)), .int .u64 (sLH (wd 3 a) (wd 2 a) (64 - r)), .int .u64 (sH (wd 3 a) (64 - r))] := by
  refine words_eq (sLH_word (wd_u64 _ _) (by omega)) (sLH_word (wd_u64 _ _) (by omega)) (sLH_word (wd_u64 _ _) (by omega)) (sH_word (wd_u64 _ _) (by omega)) ?_
  rw [Nat.zero_add, shr_core ha h0 hr]; rfl
theorem shr_1 : W4 (a / 2 ^ (64 + r)) = .agg #[.int .u64 (sLH (wd 2 a) (wd 1 a) (64 - r)), .int .u64 (sLH (wd 3 a) (wd 2 a) (64 - r)), .int .u64 (sH (wd 3 a) (64 - r)), .int .u64 0] := by
  have l0 := (sLH_word (x := wd 1 a) (y := wd 0 a) (r := 64 - r) (wd_u64 _ _) (by omega)).out
  refine words_eq (d := 0) (sLH_word (wd_u64 _ _) (by omega)) (sLH_word (wd_u64 _ _) (by omega)) (sH_word (wd_u64 _ _) (by omega)) (show 0 < 18446744073709551616 by decide) ?_
  rw [Nat.add_comm, Nat.pow_add, ← Nat.div_div_eq_div_mul, shr_core ha h0 hr]; unfold of4; omega
theorem shr_2 : W4 (a / 2 ^ (128 + r)) = .agg #[.int .u64 (sLH (wd 3 a) (wd 2 a) (64 - r)), .int .u64 (sH (wd 3 a) (64 - r)), .int .u64 0, .int .u64 0] := by
  have l0 := (sLH_word (x := wd 1 a) (y := wd 0 a) (r := 64 - r) (wd_u64 _ _) (by omega)).out
  have l1 := (sLH_word (x := wd 2 a) (y := wd 1 a) (r := 64 - r) (wd_u64 _ _) (by omega)).out
  refine words_eq (c := 0) (d := 0) (sLH_word (wd_u64 _ _) (by omega)) (sH_word (wd_u64 _ _) (by omega)) (show 0 < 18446744073709551616 by decide) (show 0 < 18446744073709551616 by decide) ?_
  rw [Nat.add_comm, Nat.pow_add, ← Nat.div_div_eq_div_mul, shr_core ha h0 hr]; unfold of4; omega
theorem shr_3 : W4 (a / 2 ^ (192 + r)) = .agg #[.int .u64 (sH (wd 3 a) (64 - r)), .int .u64 0, .int .u64 0, .int .u64 0] := by
  have l0 := (sLH_word (x := wd 1 a) (y := wd 0 a) (r := 64 - r) (wd_u64 _ _) (by omega)).out
  have l1 := (sLH_word (x := wd 2 a) (y := wd 1 a) (r := 64 - r) (wd_u64 _ _) (by omega)).out
  have l2 := (sLH_word (x := wd 3 a) (y := wd 2 a) (r := 64 - r) (wd_u64 _ _) (by omega)).out
  refine words_eq (b := 0) (c := 0) (d := 0) (sH_word (wd_u64 _ _) (by omega)) (show 0 < 18446744073709551616 by decide) (show 0 < 18446744073709551616 by decide) (show 0 < 18446744073709551616 by decide) ?_
  rw [Nat.add_comm, Nat.pow_add, ← Nat.div_div_eq_div_mul, shr_core ha h0 hr]; unfold of4; omega
end
theorem shr_0z {a : Nat} : W4 (a / 2 ^ (0 + 0)) = .agg #[.int .u64 (wd 0 a), .int .u64 (wd 1 a), .int .u64 (wd 2 a), .int .u64 (wd 3 a)] := by
  rw [show a / 2 ^ (0 + 0) = a from by simp]
section
variable {a : Nat} (ha : U256 a)
include ha
theorem shr_1z : W4 (a / 2 ^ (64 + 0)) = .agg #[.int .u64 (wd 1 a), .int .u64 (wd 2 a), .int .u64 (wd 3 a), .int .u64 0] := by
  refine words_eq (d := 0) (wd_u64 _ _) (wd_u64 _ _) (wd_u64 _ _) (show 0 < 18446744073709551616 by decide) ?_
  have := ha.out; rw [wd1, wd2, wd3]; unfold of4; omega
theorem shr_2z : W4 (a / 2 ^ (128 + 0)) = .agg #[.int .u64 (wd 2 a), .int .u64 (wd 3 a), .int .u64 0, .int .u64 0] := by
  refine words_eq (c := 0) (d := 0) (wd_u64 _ _) (wd_u64 _ _) (show 0 < 18446744073709551616 by decide) (show 0 < 18446744073709551616 by decide) ?_
  have := ha.out; rw [wd2, wd3]; unfold of4; omega
theorem shr_3z : W4 (a / 2 ^ (192 + 0)) = .agg #[.int .u64 (wd 3 a), .int .u64 0, .int .u64 0, .int .u64 0] := by
  refine words_eq (b := 0) (c := 0) (d := 0) (wd_u64 _ _) (show 0 < 18446744073709551616 by decide) (show 0 < 18446744073709551616 by decide) (show 0 < 18446744073709551616 by decide) ?_
  have := ha.out; rw [wd3]; unfold of4; omega
theorem shr_big {k : Nat} (h : 256 ≤ k) : a / 2 ^ k = 0 :=
  Nat.div_eq_of_lt (Nat.lt_of_lt_of_le ha.out (Nat.pow_le_pow_right (by decide) h))
/-- Moved down and up again, the number is the same just where nothing was cut off. -/
theorem back_mod (k : Nat) : (a / 2 ^ k * 2 ^ k) % 2 ^ 256 = a / 2 ^ k * 2 ^ k := by
  have := ha.out
  exact Nat.mod_eq_of_lt (Nat.lt_of_le_of_lt (Nat.div_mul_le_self a (2 ^ k)) this)
end
theorem zero_words : W4 0 = .agg #[.int .u64 0, .int .u64 0, .int .u64 0, .int .u64 0] :=
  words_eq (a := 0) (b := 0) (c := 0) (d := 0) (show 0 < 18446744073709551616 by decide) (show 0 < 18446744073709551616 by decide) (show 0 < 18446744073709551616 by decide) (show 0 < 18446744073709551616 by decide) rfl
theorem words_inj {a b : Nat} (ha : U256 a) (hb : U256 b) (h0 : wd 0 a = wd 0 b) (h1 : wd 1 a = wd 1 b) (h2 : wd 2 a = wd 2 b) (h3 : wd 3 a = wd 3 b) : a = b := by
  rw [← of4_wd ha, ← of4_wd hb, h0, h1, h2, h3]
end Go.Proofs.YtldmbneckcjonabDoor
namespace Go.Proofs.YtldmbneckcjonabDoor
open Go.RowKit
theorem eq4_run_d (d : Nat) (x0 x1 x2 x3 y0 y1 y2 y3 : Int) (w : World) :
    (Op.equalIn (d + 2) 75 (.agg #[.int .u64 x0, .int .u64 x1, .int .u64 x2, .int .u64 x3]) (.agg #[.int .u64 y0, .int .u64 y1, .int .u64 y2, .int .u64 y3])).run Tryd.prog w =
      .ok (x0 == y0 && (x1 == y1 && (x2 == y2 && x3 == y3))) w := by
  have hu := Tryd.underlying75
  have hs : (sizeOf 25).run Tryd.prog w = .ok 1 w := by kernel_rfl
  have h64 : ∀ (a b : Int), (Op.equalIn (d + 1) 25 (.int .u64 a) (.int .u64 b)).run Tryd.prog w = .ok (a == b) w := fun a b => run_equalIn_int w d 25 .u64 .u64 a b Tryd.underlying25
  have p0 : ∀ a b c e : Int, (part 25 #[.int .u64 a, .int .u64 b, .int .u64 c, .int .u64 e] 0).run Tryd.prog w = .ok (.int .u64 a) w := fun _ _ _ _ => by kernel_rfl
  have p1 : ∀ a b c e : Int, (part 25 #[.int .u64 a, .int .u64 b, .int .u64 c, .int .u64 e] 1).run Tryd.prog w = .ok (.int .u64 b) w := fun _ _ _ _ => by kernel_rfl
  have p2 : ∀ a b c e : Int, (part 25 #[.int .u64 a, .int .u64 b, .int .u64 c, .int .u64 e] 2).run Tryd.prog w = .ok (.int .u64 c) w := fun _ _ _ _ => by kernel_rfl
  have p3 : ∀ a b c e : Int, (part 25 #[.int .u64 a, .int .u64 b, .int .u64 c, .int .u64 e] 3).run Tryd.prog w = .ok (.int .u64 e) w := fun _ _ _ _ => by kernel_rfl
  rw [Op.equalIn]
  simp only [Sem.run_bind, run_underlying hu, Result.andThen_ok, hs]
  by_cases h0 : x0 = y0 <;> by_cases h1 : x1 = y1 <;> by_cases h2 : x2 = y2 <;> by_cases h3 : x3 = y3 <;>
    simp [h64, p0, p1, p2, p3, Std.Legacy.Range.forIn_eq_forIn_range', Std.Legacy.Range.size, List.range', h0, h1, h2, h3]
theorem eqW_run {a b : Nat} (ha : U256 a) (hb : U256 b) (w : World) :
    (Op.equalIn 10000 75 (.agg #[.int .u64 (wd 0 a), .int .u64 (wd 1 a), .int .u64 (wd 2 a), .int .u64 (wd 3 a)]) (.agg #[.int .u64 (wd 0 b), .int .u64 (wd 1 b), .int .u64 (wd 2 b), .int .u64 (wd 3 b)])).run Tryd.prog w =
      .ok (decide (a = b)) w := by
  rw [eq4_run_d 9998]
  congr 1
  by_cases h : a = b
  · subst h; simp
  · simp only [h, decide_false]
    rw [← Bool.not_eq_true]
    intro hh
    simp only [Bool.and_eq_true, beq_iff_eq, Int.natCast_inj] at hh
    exact h (words_inj ha hb hh.1 hh.2.1 hh.2.2.1 hh.2.2.2)
theorem wd_zero (i : Nat) : wd i 0 = 0 := by unfold wd; simp
theorem u256_zero : U256 0 := by unfold U256; decide
theorem eqW0_run {a : Nat} (ha : U256 a) (w : World) :
    (Op.equalIn 10000 75 (.agg #[.int .u64 (wd 0 a), .int .u64 (wd 1 a), .int .u64 (wd 2 a), .int .u64 (wd 3 a)]) (.agg #[.int .u64 0, .int .u64 0, .int .u64 0, .int .u64 0])).run Tryd.prog w =
      .ok (decide (a = 0)) w := by
  have := eqW_run ha u256_zero w
  simp only [wd_zero] at this
  exact this
theorem eq0W_run {a : Nat} (ha : U256 a) (w : World) :
    (Op.equalIn 10000 75 (.agg #[.int .u64 0, .int .u64 0, .int .u64 0, .int .u64 0]) (.agg #[.int .u64 (wd 0 a), .int .u64 (wd 1 a), .int .u64 (wd 2 a), .int .u64 (wd 3 a)])).run Tryd.prog w =
      .ok (decide (0 = a)) w := by
  have := eqW_run u256_zero ha w
  simp only [wd_zero] at this
  exact this
end Go.Proofs.YtldmbneckcjonabDoor
namespace Go.Proofs.YtldmbneckcjonabDoor
theorem or_pow {x k : Nat} (hx : x % 2 ^ (k + 1) = 0) (h : x + 2 ^ k < 18446744073709551616) : bits .or .u64 (x : Int) ((2 ^ k : Nat) : Int) = ((x + 2 ^ k : Nat) : Int) := by
  rw [u64_or_nat _ _ (by omega) (by omega), nat_join (k + 1) _ _ hx (Nat.pow_lt_pow_right (by decide) (by omega))]
/-- The lowest word of a multiple of four, with a number below four set into it. -/
theorem low_or {n v : Nat} (hn : n % 4 = 0) (hv : v < 4) : bits .or .u64 (wd 0 n) (v : Int) = (wd 0 (n + v) : Nat) := by
  have hw := (wd_u64 0 n).out
  rw [u64_or_nat _ _ hw (by omega)]
  rw [wd0] at hw ⊢
  rw [wd0, nat_join 2 _ _ (by omega) (by omega)]
  omega
theorem low_1 {n v : Nat} (hn : n % 4 = 0) (hv : v < 4) : wd 1 (n + v) = wd 1 n := by rw [wd1, wd1]; omega
theorem low_2 {n v : Nat} (hn : n % 4 = 0) (hv : v < 4) : wd 2 (n + v) = wd 2 n := by rw [wd2, wd2]; omega
theorem low_3 {n v : Nat} (hn : n % 4 = 0) (hv : v < 4) : wd 3 (n + v) = wd 3 n := by rw [wd3, wd3]; omega
theorem low2_or {n : Nat} (hn : n % 2 = 0) : bits .or .u64 (wd 0 n) 1 = (wd 0 (n + 1) : Nat) := by
  have hw := (wd_u64 0 n).out
  have := u64_or_nat (wd 0 n) 1 hw (by omega)
  rw [show ((1 : Nat) : Int) = 1 from rfl] at this
  rw [this]
  rw [wd0] at hw ⊢
  rw [wd0, nat_join 1 _ _ (by omega) (by omega)]
  omega
theorem low2_1 {n : Nat} (hn : n % 2 = 0) : wd 1 (n + 1) = wd 1 n := by rw [wd1, wd1]; omega
theorem low2_2 {n : Nat} (hn : n % 2 = 0) : wd 2 (n + 1) = wd 2 n := by rw [wd2, wd2]; omega
theorem low2_3 {n : Nat} (hn : n % 2 = 0) : wd 3 (n + 1) = wd 3 n := by rw [wd3, wd3]; omega
end Go.Proofs.YtldmbneckcjonabDoor
namespace Go.Proofs.YtldmbneckcjonabDoor
open Go.RowKit
set_option maxRecDepth 100000 in
set_option maxHeartbeats 400000 in
theorem Less_any (a b : Nat) (ha : U256 a) (hb : U256 b) (w : World) :
    Calls Tryd.prog 61 #[W4 a, W4 b] w fun e w' => e = .returned (.bool (decide (a < b))) ∧ Below w.heap.size w w' := by
  go_enter Tryd.func61, Tryd.ntmps61
  go_wp2_with (go_at_call 65; refine (Sub_any a b ha hb _).mono ?_; rintro e w1 ⟨rfl, hb1⟩; obtain ⟨hc_w1, hf_w1⟩ := bcell0 hb1; have hz_w1 := (hb1).size; (try simp at hz_w1))
  go_ret
  refine ⟨rfl, ?_⟩
  repeat' (first | with_reducible exact Below.refl _ _ | with_reducible assumption | with_reducible refine Below.drew ?_ | with_reducible refine bdrewN ?_ _ | with_reducible refine Below.alloc ?_ ?_ _ | with_reducible refine Below.setCell ?_ ?_ _ | with_reducible refine Below.trans ?_ (Below.mono (by assumption) ?_) | omega | (simp; done) | (simp; omega))
/-- Bit k of n. -/
@[irreducible] def bitN (n k : Nat) : Nat := n / 2 ^ k % 2
theorem bitN_le (n k : Nat) : bitN n k ≤ 1 := by unfold bitN; omega
theorem bit_word {n : Nat} (q r : Nat) (hr : r < 64) : wd q n / 2 ^ r % 2 = n / 2 ^ (64 * q + r) % 2 := by
  unfold wd
  rw [Nat.pow_add, ← Nat.div_div_eq_div_mul]
  generalize n / 2 ^ (64 * q) = m
  have h64 : 18446744073709551616 = 2 ^ r * (2 * 2 ^ (63 - r)) := by
    rw [← Nat.pow_succ', ← Nat.pow_add, show r + (63 - r + 1) = 64 from by omega]
  rw [h64, Nat.mod_mul_right_div_self, Nat.mod_mul_right_mod]
theorem bit_and (x r : Nat) : bits .and .u64 ((x : Int) / 2 ^ r) 1 = (x / 2 ^ r % 2 : Nat) := by
  rw [and_1]; simp
attribute [local go_sem] bit_and
set_option maxRecDepth 100000 in
set_option maxHeartbeats 400000 in
theorem Bit_0 (n : Nat) (k : Int) (h0 : 0 ≤ k) (hq : k / 64 = 0) (r : Nat) (hr : k % 64 = r) (hr2 : r < 64) (x : Nat) (hx : Hid (wd 0 n / 2 ^ r % 2 = x)) (w : World) :
    Calls Tryd.prog 68 #[W4 n, .int .i64 k] w fun e w' => e = .returned (.int .u64 x) ∧ Below w.heap.size w w' := by
  go_enter Tryd.func68, Tryd.ntmps68
  go_wp2
  go_ret
  refine ⟨ret_int ?_, ?_⟩
  · rw [← hx.out]; simp
  · repeat' (first | with_reducible exact Below.refl _ _ | with_reducible assumption | with_reducible refine Below.drew ?_ | with_reducible refine bdrewN ?_ _ | with_reducible refine Below.alloc ?_ ?_ _ | with_reducible refine Below.setCell ?_ ?_ _ | with_reducible refine Below.trans ?_ (Below.mono (by assumption) ?_) | omega | (simp; done) | (simp; omega))
set_option maxRecDepth 100000 in
set_option maxHeartbeats 400000 in
theorem Bit_1 (n : Nat) (k : Int) (h0 : 0 ≤ k) (hq : k / 64 = 1) (r : Nat) (hr : k % 64 = r) (hr2 : r < 64) (x : Nat) (hx : Hid (wd 1 n / 2 ^ r % 2 = x)) (w : World) :
    Calls Tryd.prog 68 #[W4 n, .int .i64 k] w fun e w' => e = .returned (.int .u64 x) ∧ Below w.heap.size w w' := by
  go_enter Tryd.func68, Tryd.ntmps68
  go_wp2
  go_ret
  refine ⟨ret_int ?_, ?_⟩
  · rw [← hx.out]; simp
  · repeat' (first | with_reducible exact Below.refl _ _ | with_reducible assumption | with_reducible refine Below.drew ?_ | with_reducible refine bdrewN ?_ _ | with_reducible refine Below.alloc ?_ ?_ _ | with_reducible refine Below.setCell ?_ ?_ _ | with_reducible refine Below.trans ?_ (Below.mono (by assumption) ?_) | omega | (simp; done) | (simp; omega))
set_option maxRecDepth 100000 in
set_option maxHeartbeats 400000 in
theorem Bit_2 (n : Nat) (k : Int) (h0 : 0 ≤ k) (hq : k / 64 = 2) (r : Nat) (hr : k % 64 = r) (hr2 : r < 64) (x : Nat) (hx : Hid (wd 2 n / 2 ^ r % 2 = x)) (w : World) :
    Calls Tryd.prog 68 #[W4 n, .int .i64 k] w fun e w' => e = .returned (.int .u64 x) ∧ Below w.heap.size w w' := by
  go_enter Tryd.func68, Tryd.ntmps68
  go_wp2
  go_ret
  refine ⟨ret_int ?_, ?_⟩
  · rw [← hx.out]; simp
  · repeat' (first | with_reducible exact Below.refl _ _ | with_reducible assumption | with_reducible refine Below.drew ?_ | with_reducible refine bdrewN ?_ _ | with_reducible refine Below.alloc ?_ ?_ _ | with_reducible refine Below.setCell ?_ ?_ _ | with_reducible refine Below.trans ?_ (Below.mono (by assumption) ?_) | omega | (simp; done) | (simp; omega))
set_option maxRecDepth 100000 in
set_option maxHeartbeats 400000 in
theorem Bit_3 (n : Nat) (k : Int) (h0 : 0 ≤ k) (hq : k / 64 = 3) (r : Nat) (hr : k % 64 = r) (hr2 : r < 64) (x : Nat) (hx : Hid (wd 3 n / 2 ^ r % 2 = x)) (w : World) :
    Calls Tryd.prog 68 #[W4 n, .int .i64 k] w fun e w' => e = .returned (.int .u64 x) ∧ Below w.heap.size w w' := by
  go_enter Tryd.func68, Tryd.ntmps68
  go_wp2
  go_ret
  refine ⟨ret_int ?_, ?_⟩
  · rw [← hx.out]; simp
  · repeat' (first | with_reducible exact Below.refl _ _ | with_reducible assumption | with_reducible refine Below.drew ?_ | with_reducible refine bdrewN ?_ _ | with_reducible refine Below.alloc ?_ ?_ _ | with_reducible refine Below.setCell ?_ ?_ _ | with_reducible refine Below.trans ?_ (Below.mono (by assumption) ?_) | omega | (simp; done) | (simp; omega))
theorem Bit_any (n : Nat) (k : Int) (h0 : 0 ≤ k) (hk : k < 256) (w : World) :
    Calls Tryd.prog 68 #[W4 n, .int .i64 k] w fun e w' => e = .returned (.int .u64 (bitN n k.toNat)) ∧ Below w.heap.size w w' := by
  have hr : k % 64 = ((k % 64).toNat : Int) := by omega
  have hq : k / 64 = 0 ∨ k / 64 = 1 ∨ k / 64 = 2 ∨ k / 64 = 3 := by omega
  rcases hq with hq | hq | hq | hq
  · exact Bit_0 n k h0 hq _ hr (by omega) _ (by rw [bit_word 0 _ (by omega), show 64 * 0 + (k % 64).toNat = k.toNat from by omega]; unfold bitN; rfl) w
  · exact Bit_1 n k h0 hq _ hr (by omega) _ (by rw [bit_word 1 _ (by omega), show 64 * 1 + (k % 64).toNat = k.toNat from by omega]; unfold bitN; rfl) w
  · exact Bit_2 n k h0 hq _ hr (by omega) _ (by rw [bit_word 2 _ (by omega), show 64 * 2 + (k % 64).toNat = k.toNat from by omega]; unfold bitN; rfl) w
  · exact Bit_3 n k h0 hq _ hr (by omega) _ (by rw [bit_word 3 _ (by omega), show 64 * 3 + (k % 64).toNat = k.toNat from by omega]; unfold bitN; rfl) w
end Go.Proofs.YtldmbneckcjonabDoor
namespace Go.Proofs.YtldmbneckcjonabDoor
open Go.RowKit
@[irreducible] def mlH (x y : Int) : Int := x * y / 18446744073709551616
@[irreducible] def mlL (x y : Int) : Int := x * y % 18446744073709551616
theorem mul_lt {x y : Int} (hx : IsW x) (hy : IsW y) : 0 ≤ x * y ∧ x * y ≤ 18446744073709551615 * 18446744073709551615 := by
  obtain ⟨x0, x1⟩ := hx
  obtain ⟨y0, y1⟩ := hy
  exact ⟨Int.mul_nonneg x0 y0, Int.mul_le_mul (by omega) (by omega) y0 (by omega)⟩
theorem ml_spec (x y : Int) : x * y = mlL x y + 18446744073709551616 * mlH x y := by unfold mlL mlH; omega
theorem isW_mlL (x y : Int) : IsW (mlL x y) := by unfold IsW mlL; omega
theorem mlH_le {x y : Int} (hx : IsW x) (hy : IsW y) : 0 ≤ mlH x y ∧ mlH x y ≤ 18446744073709551614 := by
  have := mul_lt hx hy; unfold mlH; omega
theorem Mul64_any {x y : Int} (hx : IsW x) (hy : IsW y) (w : World) :
    Calls Tryd.prog 66 #[.int .u64 x, .int .u64 y] w fun e w' => e = .returned (.tuple #[.int .u64 (mlH x y), .int .u64 (mlL x y)]) ∧ w' = w := by
  obtain ⟨x0, x1⟩ := hx
  obtain ⟨y0, y1⟩ := hy
  obtain ⟨X, rfl⟩ := Int.eq_ofNat_of_zero_le x0
  obtain ⟨Y, rfl⟩ := Int.eq_ofNat_of_zero_le y0
  refine (Tryd.bits_Mul64 X Y (by omega) (by omega) w).mono fun e w' ⟨h1, h2⟩ => ⟨?_, h2⟩
  rw [h1]; unfold mlH mlL; simp
/-- One step of the schoolbook: a * b + o + c: its low word; its high word. -/
@[irreducible] def msL (a b o c : Int) : Int := adS (adS (mlL a b) o 0) c 0
@[irreducible] def msH (a b o c : Int) : Int := IntKind.u64.wrap (IntKind.u64.wrap (mlH a b + adC (mlL a b) o 0) + adC (adS (mlL a b) o 0) c 0)
theorem isW_msL (a b o c : Int) : IsW (msL a b o c) := by unfold msL; exact isW_adS _ _ _
theorem isW_msH (a b o c : Int) : IsW (msH a b o c) := by unfold msH; rw [IntKind.wrap_u64]; unfold IsW; omega
theorem ms_spec {a b o c : Int} (ha : IsW a) (hb : IsW b) (ho : IsW o) (hc : IsW c) : a * b + o + c = msL a b o c + 18446744073709551616 * msH a b o c := by
  have e1 := ml_spec a b
  have h1 := mlH_le ha hb
  have h2 := isW_mlL a b
  have e2 := ad_spec h2 ho isC_zero
  have h3 := isW_adS (mlL a b) o 0
  have e3 := ad_spec h3 hc isC_zero
  have c1 := isC_adC (mlL a b) o 0
  have c2 := isC_adC (adS (mlL a b) o 0) c 0
  have h4 := isW_adS (adS (mlL a b) o 0) c 0
  have hp := mul_lt ha hb
  unfold msL msH
  simp only [IntKind.wrap_u64]
  generalize a * b = p at *
  generalize adS (adS (mlL a b) o 0) c 0 = s at *
  generalize adC (adS (mlL a b) o 0) c 0 = d at *
  generalize adS (mlL a b) o 0 = t at *
  generalize adC (mlL a b) o 0 = f at *
  generalize mlL a b = l at *
  generalize mlH a b = h at *
  unfold IsW IsC at *
  omega
theorem ms_foldL (a b o c : Int) : adS (adS (mlL a b) o 0) c 0 = msL a b o c := by unfold msL; rfl
theorem ms_foldH (a b o c : Int) : IntKind.u64.wrap (IntKind.u64.wrap (mlH a b + adC (mlL a b) o 0) + adC (adS (mlL a b) o 0) c 0) = msH a b o c := by unfold msH; rfl
/-- The product of two numbers of two words. -/
theorem mul_math {a0 a1 b0 b1 : Int} (ha0 : IsW a0) (ha1 : IsW a1) (hb0 : IsW b0) (hb1 : IsW b1) :
    W4 ((a0 + 18446744073709551616 * a1) * (b0 + 18446744073709551616 * b1)).toNat = .agg #[.int .u64 (msL a0 b0 0 0), .int .u64 (msL a1 b0 (msL a0 b1 0 (msH a0 b0 0 0)) 0),
      .int .u64 (msL a1 b1 (msH a0 b1 0 (msH a0 b0 0 0)) (msH a1 b0 (msL a0 b1 0 (msH a0 b0 0 0)) 0)), .int .u64 (msH a1 b1 (msH a0 b1 0 (msH a0 b0 0 0)) (msH a1 b0 (msL a0 b1 0 (msH a0 b0 0 0)) 0))] := by
  have z := isW_zero
  have s1 := ms_spec ha0 hb0 z z
  have l1 := isW_msL a0 b0 0 0
  have h1 := isW_msH a0 b0 0 0
  have s2 := ms_spec ha0 hb1 z h1
  have l2 := isW_msL a0 b1 0 (msH a0 b0 0 0)
  have h2 := isW_msH a0 b1 0 (msH a0 b0 0 0)
  have s3 := ms_spec ha1 hb0 l2 z
  have l3 := isW_msL a1 b0 (msL a0 b1 0 (msH a0 b0 0 0)) 0
  have h3 := isW_msH a1 b0 (msL a0 b1 0 (msH a0 b0 0 0)) 0
  have s4 := ms_spec ha1 hb1 h2 h3
  have l4 := isW_msL a1 b1 (msH a0 b1 0 (msH a0 b0 0 0)) (msH a1 b0 (msL a0 b1 0 (msH a0 b0 0 0)) 0)
  have h4 := isW_msH a1 b1 (msH a0 b1 0 (msH a0 b0 0 0)) (msH a1 b0 (msL a0 b1 0 (msH a0 b0 0 0)) 0)
  refine wordsI l1 l3 l4 h4 ?_
  have hn : 0 ≤ (a0 + 18446744073709551616 * a1) * (b0 + 18446744073709551616 * b1) := Int.mul_nonneg (by have := ha0.1; have := ha1.1; omega) (by have := hb0.1; have := hb1.1; omega)
  rw [Int.toNat_of_nonneg hn]
  have e : (a0 + 18446744073709551616 * a1) * (b0 + 18446744073709551616 * b1) = a0 * b0 + 18446744073709551616 * (a0 * b1) + 18446744073709551616 * (a1 * b0) + 340282366920938463463374607431768211456 * (a1 * b1) := by
    rw [Int.add_mul, Int.mul_add, Int.mul_add, Int.mul_left_comm a0 18446744073709551616 b1, Int.mul_assoc 18446744073709551616 a1 b0, Int.mul_assoc 18446744073709551616 a1 (18446744073709551616 * b1), Int.mul_left_comm a1 18446744073709551616 b1]
    omega
  rw [e]
  omega
attribute [local go_sem] call_Add64 isW_zero isC_zero isW_adS isC_adC isW_mlL ms_foldL ms_foldH isW_msL isW_msH
set_option maxRecDepth 100000 in
set_option maxHeartbeats 1000000 in
theorem Mul_any {a0 a1 b0 b1 : Int} (ha0 : IsW a0) (ha1 : IsW a1) (hb0 : IsW b0) (hb1 : IsW b1) (w : World) :
    Calls Tryd.prog 54 #[.agg #[.int .u64 a0, .int .u64 a1], .agg #[.int .u64 b0, .int .u64 b1]] w fun e w' => e = .returned (W4 ((a0 + 18446744073709551616 * a1) * (b0 + 18446744073709551616 * b1)).toNat) ∧ Below w.heap.size w w' := by
  rw [mul_math ha0 ha1 hb0 hb1]
  go_enter Tryd.func54, Tryd.ntmps54
  go_wp2
  refine wp_loop_rounds 3 ?_
  rw [rounds_succ]
  go_wp2
  refine wp_loop_rounds 3 ?_
  rw [rounds_succ]
  go_wp2
  go_region_held3 (fun w' => w'.cell? ⟨w.heap.size, 0, none⟩ = some (.int .u64 a0) ∧ w'.cell? ⟨w.heap.size + 1, 0, none⟩ = some (.int .u64 b0))
    (first | (refine ⟨?_, ?_⟩ <;> (go_simp; done)) | go_keep)
    (first | (go_at_call 66; refine (Mul64_any (by assumption) (by assumption) _).mono ?_; rintro e w' ⟨rfl, rfl⟩))
  go_wp2
  rw [rounds_succ]
  go_wp2
  go_region_held3 (fun w' => w'.cell? ⟨w.heap.size, 0, none⟩ = some (.int .u64 a0) ∧ w'.cell? ⟨w.heap.size + 1, 1, none⟩ = some (.int .u64 b1))
    (first | (refine ⟨?_, ?_⟩ <;> (go_simp; done)) | go_keep)
    (first | (go_at_call 66; refine (Mul64_any (by assumption) (by assumption) _).mono ?_; rintro e w' ⟨rfl, rfl⟩))
  go_wp2
  rw [rounds_succ]
  go_wp2
  rw [rounds_succ]
  go_wp2
  refine wp_loop_rounds 3 ?_
  rw [rounds_succ]
  go_wp2
  go_region_held3 (fun w' => w'.cell? ⟨w.heap.size, 1, none⟩ = some (.int .u64 a1) ∧ w'.cell? ⟨w.heap.size + 1, 0, none⟩ = some (.int .u64 b0))
    (first | (refine ⟨?_, ?_⟩ <;> (go_simp; done)) | go_keep)
    (first | (go_at_call 66; refine (Mul64_any (by assumption) (by assumption) _).mono ?_; rintro e w' ⟨rfl, rfl⟩))
  go_wp2
  rw [rounds_succ]
  go_wp2
  go_region_held3 (fun w' => w'.cell? ⟨w.heap.size, 1, none⟩ = some (.int .u64 a1) ∧ w'.cell? ⟨w.heap.size + 1, 1, none⟩ = some (.int .u64 b1))
    (first | (refine ⟨?_, ?_⟩ <;> (go_simp; done)) | go_keep)
    (first | (go_at_call 66; refine (Mul64_any (by assumption) (by assumption) _).mono ?_; rintro e w' ⟨rfl, rfl⟩))
  go_wp2
  rw [rounds_succ]
  go_wp2
  rw [rounds_succ]
  go_wp2
  refine bodyPost_ret (v := .agg #[_, _, _, _]) (by simp [results, Tryd.results54, go_sem]) rfl ⟨rfl, ?_⟩
  repeat' (first | with_reducible exact Below.refl _ _ | with_reducible assumption | with_reducible refine Below.drew ?_ | with_reducible refine bdrewN ?_ _ | with_reducible refine Below.alloc ?_ ?_ _ | with_reducible refine Below.setCell ?_ ?_ _ | with_reducible refine Below.trans ?_ (Below.mono (by assumption) ?_) | omega | (simp; done) | (simp; omega))
end Go.Proofs.YtldmbneckcjonabDoor
namespace Go.Proofs.YtldmbneckcjonabDoor
theorem qY {Y h l : Nat} (hY : Y = h * 4294967296 + l) (q : Nat) : q * Y = 4294967296 * (q * h) + q * l := by rw [hY, Nat.mul_add, ← Nat.mul_assoc, Nat.mul_comm (q * h)]
theorem kd_true {Y h l u d q r : Nat} (hY : Y = h * 4294967296 + l) (hu : u < Y) (hd : d < 4294967296) (hq : q * h + r = u) (ht : 4294967296 ≤ q ∨ 4294967296 * r + d < q * l) : (u * 4294967296 + d) / Y < q := by
  rw [Nat.div_lt_iff_lt_mul (by omega)]
  rcases ht with ht | ht
  · have : 4294967296 * Y ≤ q * Y := Nat.mul_le_mul_right _ ht
    omega
  · rw [qY hY]; omega
theorem kd_false {Y h l u d q r : Nat} (hY : Y = h * 4294967296 + l) (hu : u < Y) (hq : q * h + r = u) (h2 : q * l ≤ 4294967296 * r + d) (hQ : (u * 4294967296 + d) / Y ≤ q) : q = (u * 4294967296 + d) / Y := by
  refine Nat.le_antisymm ?_ hQ
  rw [Nat.le_div_iff_mul_le (by omega), qY hY]; omega
theorem kd_break {Y h l u d q r : Nat} (hY : Y = h * 4294967296 + l) (hl : l < 4294967296) (hu : u < Y) (hq : q * h + r = u) (h1 : q ≤ 4294967296) (h2 : 4294967296 ≤ r) (hQ : (u * 4294967296 + d) / Y ≤ q) : q = (u * 4294967296 + d) / Y := by
  refine Nat.le_antisymm ?_ hQ
  have h3 : q * l ≤ 4294967296 * 4294967295 := Nat.mul_le_mul h1 (by omega)
  rw [Nat.le_div_iff_mul_le (by omega), qY hY]; omega
theorem kd_start_le {Y h l u : Nat} (hY : Y = h * 4294967296 + l) (hl : l < 4294967296) (hh : 2147483648 ≤ h) (hu : u < Y) : u / h ≤ 4294967297 := by
  rw [← Nat.lt_succ_iff, Nat.div_lt_iff_lt_mul (by omega)]
  show u < 4294967298 * h
  omega
theorem kd_start {Y h l u d : Nat} (hY : Y = h * 4294967296 + l) (hh : 2147483648 ≤ h) (hu : u < Y) (hd : d < 4294967296) : (u * 4294967296 + d) / Y ≤ u / h := by
  rw [← Nat.lt_succ_iff, Nat.div_lt_iff_lt_mul (by omega)]
  have h1 : u < (u / h + 1) * h := by
    have h2 := Nat.lt_mul_div_succ u (show 0 < h by omega)
    rwa [Nat.mul_comm] at h2
  rw [Nat.succ_eq_add_one, qY hY]
  generalize (u / h + 1) * h = p at *
  generalize (u / h + 1) * l = t at *
  omega
theorem kd_lt {Y u d : Nat} (hu : u < Y) (hd : d < 4294967296) : (u * 4294967296 + d) / Y < 4294967296 := by
  rw [Nat.div_lt_iff_lt_mul (by omega)]
  omega
/-- Two half steps make a whole one. -/
theorem kd_join {Y m b : Nat} (hY : 0 < Y) :
    m / Y * 4294967296 + (m % Y * 4294967296 + b) / Y = (m * 4294967296 + b) / Y ∧ (m % Y * 4294967296 + b) % Y = (m * 4294967296 + b) % Y := by
  have e : m * 4294967296 + b = (m % Y * 4294967296 + b) + Y * (m / Y * 4294967296) := by
    have := Nat.div_add_mod m Y
    rw [← Nat.mul_assoc]
    generalize Y * (m / Y) = p at *
    omega
  constructor
  · rw [e, Nat.add_mul_div_left _ _ hY, Nat.add_comm]
  · rw [e, Nat.add_mul_mod_self_left]
/-- Below two to the 32, and not, the numeral hidden from the walk. -/
def Lt32 (q : Nat) : Prop := q < 4294967296
def Ge32 (q : Nat) : Prop := 4294967296 ≤ q
theorem lt32_or (q : Nat) : Lt32 q ∨ Ge32 q := Nat.lt_or_ge _ _
theorem ge32_no {q : Nat} (h : Lt32 q) : ((4294967296 : Int) ≤ q) = False := eq_false (by unfold Lt32 at h; omega)
theorem ge32_yes {q : Nat} (h : Ge32 q) : ((4294967296 : Int) ≤ q) = True := eq_true (by unfold Ge32 at h; omega)
/-- What is known at a correction loop's head: the guess q, its rest r. -/
def Guess (h u Q q r : Nat) : Prop := q * h + r = u ∧ Q ≤ q ∧ q ≤ 4294967297 ∧ r < 4294967296
/-- How far the rest may still grow. -/
def Left32 (r : Int) : Nat := 4294967296 - r.toNat
end Go.Proofs.YtldmbneckcjonabDoor
namespace Go.Proofs.YtldmbneckcjonabDoor
open Go.RowKit
/-- Block b: its first four cells, none of them frozen. -/
def K4 (w : World) (b : Nat) (c0 c1 c2 c3 : Value) : Prop := (w.cell? ⟨b, 0, none⟩ = some c0 ∧ w.cell? ⟨b, 1, none⟩ = some c1 ∧ w.cell? ⟨b, 2, none⟩ = some c2 ∧ w.cell? ⟨b, 3, none⟩ = some c3) ∧
  (w.frozen? ⟨b, 0, none⟩ = false ∧ w.frozen? ⟨b, 1, none⟩ = false ∧ w.frozen? ⟨b, 2, none⟩ = false ∧ w.frozen? ⟨b, 3, none⟩ = false)
section
variable {w w1 : World} {b : Nat} {c0 c1 c2 c3 : Value}
theorem K4.below {B : Nat} (h : K4 w b c0 c1 c2 c3) (hb : Below B w w1) (hlt : b < B) : K4 w1 b c0 c1 c2 c3 := by
  obtain ⟨⟨h0, h1, h2, h3⟩, f0, f1, f2, f3⟩ := h
  exact ⟨⟨(hb.cell hlt).trans h0, (hb.cell hlt).trans h1, (hb.cell hlt).trans h2, (hb.cell hlt).trans h3⟩, (hb.frozen hlt).trans f0, (hb.frozen hlt).trans f1, (hb.frozen hlt).trans f2, (hb.frozen hlt).trans f3⟩
theorem K4.drew (h : K4 w b c0 c1 c2 c3) : K4 w.drew b c0 c1 c2 c3 := h
theorem K4.alloc (h : K4 w b c0 c1 c2 c3) (hlt : b < w.heap.size) (o : Obj) : K4 (w.alloc o) b c0 c1 c2 c3 :=
  h.below ((Below.refl _ w).alloc (Nat.le_refl _) o) hlt
theorem K4.far (h : K4 w b c0 c1 c2 c3) {p : Addr} (hp : p.block ≠ b) (v : Value) : K4 (w.setCell p v) b c0 c1 c2 c3 := by
  obtain ⟨⟨h0, h1, h2, h3⟩, f0, f1, f2, f3⟩ := h
  have ne : ∀ i : Nat, p ≠ ⟨b, i, none⟩ := fun i e => hp (by rw [e])
  exact ⟨⟨(World.cell?_setCell_other _ _ _ _ (ne 0)).trans h0, (World.cell?_setCell_other _ _ _ _ (ne 1)).trans h1, (World.cell?_setCell_other _ _ _ _ (ne 2)).trans h2, (World.cell?_setCell_other _ _ _ _ (ne 3)).trans h3⟩,
    by simpa using f0, by simpa using f1, by simpa using f2, by simpa using f3⟩
theorem addr_ne (b : Nat) {i j : Nat} (h : i ≠ j) : (⟨b, i, none⟩ : Addr) ≠ ⟨b, j, none⟩ := fun e => h (by injection e)
theorem K4.set0 (h : K4 w b c0 c1 c2 c3) (v : Value) : K4 (w.setCell ⟨b, 0, none⟩ v) b v c1 c2 c3 := by
  obtain ⟨⟨h0, h1, h2, h3⟩, f0, f1, f2, f3⟩ := h
  exact ⟨⟨World.cell?_setCell_same _ _ _ h0, (World.cell?_setCell_other _ _ _ _ (addr_ne b (by decide))).trans h1, (World.cell?_setCell_other _ _ _ _ (addr_ne b (by decide))).trans h2, (World.cell?_setCell_other _ _ _ _ (addr_ne b (by decide))).trans h3⟩,
    by simpa using f0, by simpa using f1, by simpa using f2, by simpa using f3⟩
theorem K4.set1 (h : K4 w b c0 c1 c2 c3) (v : Value) : K4 (w.setCell ⟨b, 1, none⟩ v) b c0 v c2 c3 := by
  obtain ⟨⟨h0, h1, h2, h3⟩, f0, f1, f2, f3⟩ := h
  exact ⟨⟨(World.cell?_setCell_other _ _ _ _ (addr_ne b (by decide))).trans h0, World.cell?_setCell_same _ _ _ h1, (World.cell?_setCell_other _ _ _ _ (addr_ne b (by decide))).trans h2, (World.cell?_setCell_other _ _ _ _ (addr_ne b (by decide))).trans h3⟩,
    by simpa using f0, by simpa using f1, by simpa using f2, by simpa using f3⟩
theorem K4.set2 (h : K4 w b c0 c1 c2 c3) (v : Value) : K4 (w.setCell ⟨b, 2, none⟩ v) b c0 c1 v c3 := by
  obtain ⟨⟨h0, h1, h2, h3⟩, f0, f1, f2, f3⟩ := h
  exact ⟨⟨(World.cell?_setCell_other _ _ _ _ (addr_ne b (by decide))).trans h0, (World.cell?_setCell_other _ _ _ _ (addr_ne b (by decide))).trans h1, World.cell?_setCell_same _ _ _ h2, (World.cell?_setCell_other _ _ _ _ (addr_ne b (by decide))).trans h3⟩,
    by simpa using f0, by simpa using f1, by simpa using f2, by simpa using f3⟩
theorem K4.set3 (h : K4 w b c0 c1 c2 c3) (v : Value) : K4 (w.setCell ⟨b, 3, none⟩ v) b c0 c1 c2 v := by
  obtain ⟨⟨h0, h1, h2, h3⟩, f0, f1, f2, f3⟩ := h
  exact ⟨⟨(World.cell?_setCell_other _ _ _ _ (addr_ne b (by decide))).trans h0, (World.cell?_setCell_other _ _ _ _ (addr_ne b (by decide))).trans h1, (World.cell?_setCell_other _ _ _ _ (addr_ne b (by decide))).trans h2, World.cell?_setCell_same _ _ _ h3⟩,
    by simpa using f0, by simpa using f1, by simpa using f2, by simpa using f3⟩
theorem K4.put (h : K4 w b c0 c1 c2 c3) (d0 d1 d2 d3 : Value) : K4 ((((w.setCell ⟨b, 0, none⟩ d0).setCell ⟨b, 1, none⟩ d1).setCell ⟨b, 2, none⟩ d2).setCell ⟨b, 3, none⟩ d3) b d0 d1 d2 d3 :=
  (((h.set0 d0).set1 d1).set2 d2).set3 d3
end
theorem K4.new (w : World) (t : TypeId) (c0 c1 c2 c3 : Value) : K4 (w.alloc (.cells #[c0, c1, c2, c3] t)) w.heap.size c0 c1 c2 c3 := by
  refine ⟨⟨?_, ?_, ?_, ?_⟩, ?_, ?_, ?_, ?_⟩ <;> go_simp
/-- Block b holds n's four words. -/
abbrev C4 (w : World) (b n : Nat) : Prop := K4 w b (.int .u64 (wd 0 n)) (.int .u64 (wd 1 n)) (.int .u64 (wd 2 n)) (.int .u64 (wd 3 n))
end Go.Proofs.YtldmbneckcjonabDoor
