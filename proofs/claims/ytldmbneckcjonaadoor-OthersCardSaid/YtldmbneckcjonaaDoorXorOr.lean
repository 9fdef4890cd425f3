/- Bits set: plain arithmetic of 'or' and 'xor' at 64 bits. -/
import Derived.Test.YtldmbneckcjonaaDoorShMath
namespace Go.Proofs.YtldmbneckcjonaaDoor
theorem or_pow {x k : Nat} (hx : x % 2 ^ (k + 1) = 0) (h : x + 2 ^ k < 18446744073709551616) : bits .or .u64 (x : Int) ((2 ^ k : Nat) : Int) = ((x + 2 ^ k : Nat) : Int) := by
  rw [u64_or_nat _ _ (by omega) (by omega), nat_join (k + 1) _ _ hx (Nat.pow_lt_pow_right (by decide) (by omega))]
/-- The lowest word of a multiple of four, with a number below four set into it. -/
theorem low_or {n v : Nat} (hn : n % 4 = 0) (hv : v < 4) : bits .or .u64 (wd 0 n) (v : Int) = (wd 0 (n + v) : Nat) := by
  have hw := (wd_u64 0 n).out
  rw [u64_or_nat _ _ hw (by omega)]
  rw [wd0] at hw ⊢
  rw [wd0, nat_join 2 _ _ (by omega) (by omega)]
  omega
theorem low_1 {n v : Nat} (hn : n % 4 = 0) (hv : v < 4) : wd 1 (n + v) = wd 1 n := by rw [wd1, wd1]; omega
theorem low_2 {n v : Nat} (hn : n % 4 = 0) (hv : v < 4) : wd 2 (n + v) = wd 2 n := by rw [wd2, wd2]; omega
theorem low_3 {n v : Nat} (hn : n % 4 = 0) (hv : v < 4) : wd 3 (n + v) = wd 3 n := by rw [wd3, wd3]; omega
theorem low2_or {n : Nat} (hn : n % 2 = 0) : bits .or .u64 (wd 0 n) 1 = (wd 0 (n + 1) : Nat) := by
  have hw := (wd_u64 0 n).out
  have := u64_or_nat (wd 0 n) 1 hw (by omega)
  rw [show ((1 : Nat) : Int) = 1 from rfl] at this
  rw [this]
  rw [wd0] at hw ⊢
  rw [wd0, nat_join 1 _ _ (by omega) (by omega)]
  omega
theorem low2_1 {n : Nat} (hn : n % 2 = 0) : wd 1 (n + 1) = wd 1 n := by rw [wd1, wd1]; omega
theorem low2_2 {n : Nat} (hn : n % 2 = 0) : wd 2 (n + 1) = wd 2 n := by rw [wd2, wd2]; omega
theorem low2_3 {n : Nat} (hn : n % 2 = 0) : wd 3 (n + 1) = wd 3 n := by rw [wd3, wd3]; omega
end Go.Proofs.YtldmbneckcjonaaDoor
