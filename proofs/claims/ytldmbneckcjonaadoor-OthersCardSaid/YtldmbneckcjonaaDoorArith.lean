/- Arithmetic for the walks: masks, shifts and wraps at uint64 and int64. No program in sight. No conditions beyond those in each statement. -/
import Derived.WalkKit
import Derived.Laws.BitsAllLaws
namespace Go.Proofs.YtldmbneckcjonaaDoor
open Go.RowKit
/-- x fits into 64 bits (a plain definition: the walk must not see the numeral). -/
def U64 (x : Nat) : Prop := x < 18446744073709551616
theorem U64.out {x : Nat} (h : U64 x) : x < 18446744073709551616 := h
/-- The law's own bound on a walk's steps, its numeral hidden. -/
def Few (k : Nat) : Prop := k < 1152921504606846976
def Many (k : Nat) : Prop := 1152921504606846976 ≤ k
theorem few_or (k : Nat) : Few k ∨ Many k := Nat.lt_or_ge _ _
theorem few_yes {k : Nat} (h : Few k) : ((k : Int) < 1152921504606846976) = True := eq_true (by unfold Few at h; omega)
theorem few_no {k : Nat} (h : Many k) : ((k : Int) < 1152921504606846976) = False := eq_false (by unfold Many at h; omega)
theorem ret_int {k : IntKind} {a b : Int} (h : a = b) : Ending.returned (.int k a) = .returned (.int k b) := by rw [h]
theorem ret_bool {a b : Bool} (h : a = b) : Ending.returned (.bool a) = .returned (.bool b) := by rw [h]
theorem ret3_int {k : IntKind} {a b c a' b' c' : Int} (h1 : a = a') (h2 : b = b') (h3 : c = c') : Ending.returned (.tuple #[.int k a, .int k b, .int k c]) = .returned (.tuple #[.int k a', .int k b', .int k c']) := by rw [h1, h2, h3]
theorem and_mask (a : Int) (k : Nat) (hk : k ≤ 64) : bits .and .u64 a ((2 ^ k - 1 : Nat) : Int) = a % ((2 ^ k : Nat) : Int) := by
  show IntKind.u64.wrap ((BitVec.ofInt 64 a &&& BitVec.ofInt 64 ((2 ^ k - 1 : Nat) : Int)).toNat : Int) = _
  have hle : 2 ^ k ≤ 2 ^ 64 := Nat.pow_le_pow_right (by decide) hk
  have hp : 0 < 2 ^ k := Nat.two_pow_pos k
  have h2 : (BitVec.ofInt 64 ((2 ^ k - 1 : Nat) : Int)).toNat = 2 ^ k - 1 := by
    rw [BitVec.ofInt_natCast, BitVec.toNat_ofNat]; exact Nat.mod_eq_of_lt (by omega)
  rw [BitVec.toNat_and, h2, Nat.and_two_pow_sub_one_eq_mod, BitVec.toNat_ofInt, IntKind.wrap_u64]
  have hn : 0 ≤ a % ((2 ^ 64 : Nat) : Int) := Int.emod_nonneg _ (by decide)
  have e1 : (((a % ((2 ^ 64 : Nat) : Int)).toNat % 2 ^ k : Nat) : Int) = a % ((2 ^ k : Nat) : Int) := by
    rw [Int.natCast_emod, Int.toNat_of_nonneg hn]
    exact Int.emod_emod_of_dvd _ (Int.natCast_dvd_natCast.2 (Nat.pow_dvd_pow 2 hk))
  rw [e1]
  have h0 := Int.emod_nonneg a (show ((2 ^ k : Nat) : Int) ≠ 0 by omega)
  have h1 := Int.emod_lt_of_pos a (show (0 : Int) < ((2 ^ k : Nat) : Int) by omega)
  exact Int.emod_eq_of_lt h0 (by omega)
theorem and_1 (a : Int) : bits .and .u64 a 1 = a % 2 := and_mask a 1 (by decide)
theorem and_2047 (a : Int) : bits .and .u64 a 2047 = a % 2048 := and_mask a 11 (by decide)
theorem and_f (a : Int) : bits .and .u64 a 4503599627370495 = a % 4503599627370496 := and_mask a 52 (by decide)
/-- A number's kind: 0 zero, 1 subnormal, 2 normal, 3 infinity, 4 quiet NaN, 5 signalling NaN. -/
def kindN (x : Nat) : Nat := if x / 4503599627370496 % 2048 = 0 then (if x % 4503599627370496 = 0 then 0 else 1) else if x / 4503599627370496 % 2048 < 2047 then 2 else if x % 4503599627370496 = 0 then 3 else if 2251799813685248 ≤ x % 4503599627370496 then 4 else 5
/-- A number's three parts. -/
@[irreducible] def sgnI (x : Nat) : Int := x / 9223372036854775808
@[irreducible] def expI (x : Nat) : Int := x / 4503599627370496 % 2048
@[irreducible] def fracI (x : Nat) : Int := x % 4503599627370496
def classN (x : Nat) : Nat := kindN x + x / 9223372036854775808 * 8
theorem kindN_lt (x : Nat) : kindN x < 6 := by unfold kindN; (repeat' split) <;> omega
end Go.Proofs.YtldmbneckcjonaaDoor
