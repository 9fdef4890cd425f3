/- Shifts of four words: plain arithmetic. -/
import Derived.Test.YtldmbneckcjonaaDoorCarry
namespace Go.Proofs.YtldmbneckcjonaaDoor
theorem two_split {r : Nat} (h : r < 64) : 2 ^ r * 2 ^ (64 - r) = 18446744073709551616 := by
  rw [← Nat.pow_add, show r + (64 - r) = 64 from by omega]
/-- What stays of a word that is moved up by r, and what goes on to the next one. -/
@[irreducible] def sL (x r : Nat) : Nat := x * 2 ^ r % 18446744073709551616
@[irreducible] def sH (x r : Nat) : Nat := x / 2 ^ (64 - r)
@[irreducible] def sLH (x y r : Nat) : Nat := sL x r + sH y r
theorem s_spec {x r : Nat} (h : r < 64) : x * 2 ^ r = sL x r + 18446744073709551616 * sH x r := by
  unfold sL sH
  have e : x * 2 ^ r / 18446744073709551616 = x / 2 ^ (64 - r) := by
    rw [← two_split h, Nat.mul_comm (2 ^ r) (2 ^ (64 - r)), Nat.mul_div_mul_right _ _ (Nat.two_pow_pos r)]
  rw [← e]; omega
theorem sL_lt (x r : Nat) : sL x r < 18446744073709551616 := by unfold sL; exact Nat.mod_lt _ (by decide)
theorem sL_mod {x r : Nat} (h : r < 64) : sL x r % 2 ^ r = 0 := by
  unfold sL
  have hd : 2 ^ r ∣ 18446744073709551616 := ⟨2 ^ (64 - r), (two_split h).symm⟩
  exact Nat.mod_eq_zero_of_dvd ((Nat.dvd_mod_iff hd).2 (Nat.dvd_mul_left _ _))
theorem sH_lt {x r : Nat} (hx : U64 x) (h : r < 64) : sH x r < 2 ^ r := by
  unfold sH
  rw [Nat.div_lt_iff_lt_mul (Nat.two_pow_pos _), two_split h]
  exact hx.out
theorem pow_le64 {r : Nat} (h : r < 64) : 2 ^ r ≤ 9223372036854775808 := Nat.pow_le_pow_right (n := 2) (j := 63) (by decide) (by omega)
theorem sH_lt64 {x r : Nat} (hx : U64 x) (h : r < 64) : sH x r < 18446744073709551616 := by
  have := sH_lt hx h; have := pow_le64 h; omega
theorem sLH_lt {x y r : Nat} (hy : U64 y) (h : r < 64) : sL x r + sH y r < 18446744073709551616 := by
  have h1 := sL_lt x r
  have h2 := sL_mod (x := x) h
  have h3 := sH_lt hy h
  have hd : 2 ^ r * 2 ^ (64 - r) = 18446744073709551616 := two_split h
  have h4 : 2 ^ r * (sL x r / 2 ^ r) = sL x r := Nat.mul_div_cancel' (Nat.dvd_of_mod_eq_zero h2)
  have h5 : sL x r / 2 ^ r < 2 ^ (64 - r) := by
    rw [Nat.div_lt_iff_lt_mul (Nat.two_pow_pos _), Nat.mul_comm, hd]; exact h1
  have h6 : 2 ^ r * (sL x r / 2 ^ r + 1) ≤ 2 ^ r * 2 ^ (64 - r) := Nat.mul_le_mul_left _ h5
  rw [Nat.mul_add, h4, hd] at h6
  omega
theorem wrap_sL (x r : Nat) : IntKind.u64.wrap ((x : Int) * 2 ^ r) = (sL x r : Nat) := by
  rw [IntKind.wrap_u64]; unfold sL; simp
theorem div_sH (x r : Nat) : (x : Int) / 2 ^ (64 - r) = (sH x r : Nat) := by
  unfold sH; simp
theorem or_sLH {x y r : Nat} (hy : U64 y) (h : r < 64) : bits .or .u64 (sL x r : Nat) (sH y r : Nat) = (sLH x y r : Nat) := by
  unfold sLH
  rw [u64_or_nat _ _ (sL_lt x r) (sH_lt64 hy h), nat_join r _ _ (sL_mod h) (sH_lt hy h)]
/-- Downward: x / 2^r, and what comes from the next word y. -/
theorem div_down {x r : Nat} (h0 : 0 < r) (h : r < 64) : (x : Int) / 2 ^ r = (sH x (64 - r) : Nat) := by
  have := div_sH x (64 - r); rwa [show 64 - (64 - r) = r from by omega] at this
theorem or_down {x y r : Nat} (hx : U64 x) (h0 : 0 < r) (h : r < 64) : bits .or .u64 (sH x (64 - r) : Nat) (sL y (64 - r) : Nat) = (sLH y x (64 - r) : Nat) := by
  unfold sLH
  rw [u64_or_nat _ _ (sH_lt64 hx (by omega)) (sL_lt y _), Nat.or_comm, nat_join (64 - r) _ _ (sL_mod (by omega)) (sH_lt hx (by omega))]
theorem of4_mul {a p : Nat} (h : U256 a) : a * p = wd 0 a * p + 18446744073709551616 * (wd 1 a * p) + 340282366920938463463374607431768211456 * (wd 2 a * p) + 6277101735386680763835789423207666416102355444464034512896 * (wd 3 a * p) := by
  conv => lhs; rw [← of4_wd h]
  unfold of4
  simp only [Nat.add_mul, Nat.mul_assoc]
theorem u64_add {a b : Nat} (h : a + b < 18446744073709551616) : U64 (a + b) := h
section
variable {a r : Nat} (ha : U256 a) (hr : r < 64)
include ha hr
theorem shl_0 : W4 (a * 2 ^ (0 + r) % 2 ^ 256) = .agg #[.int .u64 (sL (wd 0 a) r), .int .u64 (sLH (wd 1 a) (wd 0 a) r), .int .u64 (sLH (wd 2 a) (wd 1 a) r), .int .u64 (sLH (wd 3 a) (wd 2 a) r)] := by
  refine words_eq (sL_lt _ _) (by unfold sLH; exact sLH_lt (wd_u64 _ _) hr) (by unfold sLH; exact sLH_lt (wd_u64 _ _) hr) (by unfold sLH; exact sLH_lt (wd_u64 _ _) hr) ?_
  have e := of4_mul (p := 2 ^ r) ha
  rw [s_spec (x := wd 0 a) hr, s_spec (x := wd 1 a) hr, s_spec (x := wd 2 a) hr, s_spec (x := wd 3 a) hr] at e
  have l0 := sL_lt (wd 0 a) r
  have l1 := sLH_lt (x := wd 1 a) (wd_u64 0 a) hr
  have l2 := sLH_lt (x := wd 2 a) (wd_u64 1 a) hr
  have l3 := sLH_lt (x := wd 3 a) (wd_u64 2 a) hr
  rw [Nat.zero_add, e]; unfold of4 sLH; omega
theorem shl_1 : W4 (a * 2 ^ (64 + r) % 2 ^ 256) = .agg #[.int .u64 0, .int .u64 (sL (wd 0 a) r), .int .u64 (sLH (wd 1 a) (wd 0 a) r), .int .u64 (sLH (wd 2 a) (wd 1 a) r)] := by
  refine words_eq (a := 0) (show 0 < 18446744073709551616 by decide) (sL_lt _ _) (by unfold sLH; exact sLH_lt (wd_u64 _ _) hr) (by unfold sLH; exact sLH_lt (wd_u64 _ _) hr) ?_
  have e := of4_mul (p := 2 ^ r) ha
  rw [s_spec (x := wd 0 a) hr, s_spec (x := wd 1 a) hr, s_spec (x := wd 2 a) hr, s_spec (x := wd 3 a) hr] at e
  have l0 := sL_lt (wd 0 a) r
  have l1 := sLH_lt (x := wd 1 a) (wd_u64 0 a) hr
  have l2 := sLH_lt (x := wd 2 a) (wd_u64 1 a) hr
  have l3 := sLH_lt (x := wd 3 a) (wd_u64 2 a) hr
  rw [Nat.pow_add, ← Nat.mul_assoc, Nat.mul_right_comm, e]; unfold of4 sLH; omega
theorem shl_2 : W4 (a * 2 ^ (128 + r) % 2 ^ 256) = .agg #[.int .u64 0, .int .u64 0, .int .u64 (sL (wd 0 a) r), .int .u64 (sLH (wd 1 a) (wd 0 a) r)] := by
  refine words_eq (a := 0) (b := 0) (show 0 < 18446744073709551616 by decide) (show 0 < 18446744073709551616 by decide) (sL_lt _ _) (by unfold sLH; exact sLH_lt (wd_u64 _ _) hr) ?_
  have e := of4_mul (p := 2 ^ r) ha
  rw [s_spec (x := wd 0 a) hr, s_spec (x := wd 1 a) hr, s_spec (x := wd 2 a) hr, s_spec (x := wd 3 a) hr] at e
  have l0 := sL_lt (wd 0 a) r
  have l1 := sLH_lt (x := wd 1 a) (wd_u64 0 a) hr
  have l2 := sLH_lt (x := wd 2 a) (wd_u64 1 a) hr
  have l3 := sLH_lt (x := wd 3 a) (wd_u64 2 a) hr
  rw [Nat.pow_add, ← Nat.mul_assoc, Nat.mul_right_comm, e]; unfold of4 sLH; omega
theorem shl_3 : W4 (a * 2 ^ (192 + r) % 2 ^ 256) = .agg #[.int .u64 0, .int .u64 0, .int .u64 0, .int .u64 (sL (wd 0 a) r)] := by
  refine words_eq (a := 0) (b := 0) (c := 0) (show 0 < 18446744073709551616 by decide) (show 0 < 18446744073709551616 by decide) (show 0 < 18446744073709551616 by decide) (sL_lt _ _) ?_
  have e := of4_mul (p := 2 ^ r) ha
  rw [s_spec (x := wd 0 a) hr, s_spec (x := wd 1 a) hr, s_spec (x := wd 2 a) hr, s_spec (x := wd 3 a) hr] at e
  have l0 := sL_lt (wd 0 a) r
  rw [Nat.pow_add, ← Nat.mul_assoc, Nat.mul_right_comm, e]; unfold of4; omega
end
theorem wrap_wd (i n : Nat) : IntKind.u64.wrap (wd i n) = wd i n := by have := (wd_u64 i n).out; rw [IntKind.wrap_u64]; omega
theorem sL_0 {x : Nat} (h : U64 x) : sL x 0 = x := by have := h.out; unfold sL; omega
theorem sH_0 {x : Nat} (h : U64 x) : sH x 0 = 0 := by have := h.out; unfold sH; omega
theorem sLH_0 {x y : Nat} (h : U64 x) (hy : U64 y) : sLH x y 0 = x := by unfold sLH; rw [sL_0 h, sH_0 hy]; omega
theorem shl_big (a : Nat) {k : Nat} (h : 256 ≤ k) : W4 (a * 2 ^ k % 2 ^ 256) = .agg #[.int .u64 0, .int .u64 0, .int .u64 0, .int .u64 0] := by
  rw [show a * 2 ^ k % 2 ^ 256 = 0 from Nat.mod_eq_zero_of_dvd (Nat.dvd_trans (Nat.pow_dvd_pow 2 h) (Nat.dvd_mul_left _ _))]
  exact words_eq (a := 0) (b := 0) (c := 0) (d := 0) (show 0 < 18446744073709551616 by decide) (show 0 < 18446744073709551616 by decide) (show 0 < 18446744073709551616 by decide) (show 0 < 18446744073709551616 by decide) rfl
/-- What Shl gives. -/
@[irreducible] def shlN (a k : Nat) : Nat := a * 2 ^ k % 2 ^ 256
theorem shlN_def (a k : Nat) : shlN a k = a * 2 ^ k % 2 ^ 256 := by unfold shlN; rfl
theorem shlN_u256 (a k : Nat) : U256 (shlN a k) := by unfold shlN U256; exact Nat.mod_lt _ (by decide)
theorem shlN_eq {a k : Nat} (h : U256 (a * 2 ^ k)) : shlN a k = a * 2 ^ k := by unfold shlN; exact Nat.mod_eq_of_lt h
end Go.Proofs.YtldmbneckcjonaaDoor
