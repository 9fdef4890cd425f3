/- Plain numbers: the length in bits, the four words of a number below 2^256. No program in sight; each lemma states its own conditions. -/
import Derived.Lib.BitFns
import Derived.Test.YtldmbneckcjonaaDoorArith
namespace Go.Proofs.YtldmbneckcjonaaDoor
/-- How many bits n has. -/
@[irreducible] def bl (n : Nat) : Nat := if n = 0 then 0 else n.log2 + 1
theorem bl_zero : bl 0 = 0 := by unfold bl; rfl
theorem bl_le {n k : Nat} : bl n ≤ k ↔ n < 2 ^ k := by
  unfold bl
  split
  · rename_i h; subst h; simp [Nat.two_pow_pos]
  · rename_i h; rw [← Nat.log2_lt h]; omega
theorem lt_bl {n k : Nat} : k < bl n ↔ 2 ^ k ≤ n := by
  have := bl_le (n := n) (k := k); omega
theorem bl_eq {n k : Nat} (h1 : 2 ^ k ≤ n) (h2 : n < 2 ^ (k + 1)) : bl n = k + 1 := by
  have := lt_bl.2 h1; have := bl_le.2 h2; omega
theorem lt_two_bl (n : Nat) : n < 2 ^ bl n := bl_le.1 (Nat.le_refl _)
theorem two_bl_le {n : Nat} (h : n ≠ 0) : 2 ^ (bl n - 1) ≤ n := by
  have h0 : 0 < bl n := lt_bl.2 (by rw [Nat.pow_zero]; omega)
  exact lt_bl.1 (by omega)
theorem bl_pos {n : Nat} : 0 < bl n ↔ n ≠ 0 := by
  rw [lt_bl]; simp; omega
theorem bl_mono {a b : Nat} (h : a ≤ b) : bl a ≤ bl b := bl_le.2 (Nat.lt_of_le_of_lt h (lt_two_bl b))
theorem bl_half {n : Nat} (h : n ≠ 0) : bl n = 1 + bl (n / 2) := by
  by_cases h1 : n = 1
  · subst h1
    rw [show (1 : Nat) / 2 = 0 from rfl, bl_zero, bl_eq (k := 0) (by decide) (by decide)]
  · have h2 : n / 2 ≠ 0 := by omega
    have h3 := two_bl_le h2
    have h4 := lt_two_bl (n / 2)
    have h0 : 0 < bl (n / 2) := bl_pos.2 h2
    obtain ⟨k, hk⟩ : ∃ k, bl (n / 2) = k + 1 := ⟨bl (n / 2) - 1, by omega⟩
    rw [hk] at h3 h4 ⊢
    simp only [Nat.add_sub_cancel] at h3
    rw [bl_eq (k := k + 1) (by rw [Nat.pow_succ]; omega) (by rw [Nat.pow_succ]; omega)]
    omega
theorem bitLenAux_eq : ∀ (f x : Nat), x < 2 ^ f → Lib.bitLenAux f x = bl x
  | 0, x, h => by
    have : x = 0 := by simpa using h
    subst this; rw [bl_zero]; rfl
  | f + 1, x, h => by
    unfold Lib.bitLenAux
    split
    · rename_i h0; subst h0; rw [bl_zero]
    · rename_i h0
      rw [bl_half h0, bitLenAux_eq f (x / 2) (by rw [Nat.pow_succ] at h; omega)]
theorem bitLen_eq {x : Nat} (h : U64 x) : Lib.bitLen x = bl x := bitLenAux_eq 64 x h
theorem bl_shift {n k : Nat} (h : n ≠ 0) : bl (n * 2 ^ k) = bl n + k := by
  have h3 := two_bl_le h
  have h4 := lt_two_bl n
  have h0 : 0 < bl n := bl_pos.2 h
  obtain ⟨j, hj⟩ : ∃ j, bl n = j + 1 := ⟨bl n - 1, by omega⟩
  rw [hj] at h3 h4 ⊢
  simp only [Nat.add_sub_cancel] at h3
  rw [bl_eq (k := j + k)]
  · omega
  · rw [Nat.pow_add]; exact Nat.mul_le_mul_right _ h3
  · rw [show j + k + 1 = (j + 1) + k from by omega, Nat.pow_add]
    exact Nat.mul_lt_mul_of_pos_right h4 (Nat.two_pow_pos k)
/-- n / 2^(64 i) has the bits above: a word at place i that is the highest one not 0. -/
theorem bl_high {n k : Nat} (h : n / 2 ^ k ≠ 0) : bl n = bl (n / 2 ^ k) + k := by
  have h3 := two_bl_le h
  have h4 := lt_two_bl (n / 2 ^ k)
  have h0 : 0 < bl (n / 2 ^ k) := bl_pos.2 h
  obtain ⟨j, hj⟩ : ∃ j, bl (n / 2 ^ k) = j + 1 := ⟨bl (n / 2 ^ k) - 1, by omega⟩
  rw [hj] at h3 h4 ⊢
  simp only [Nat.add_sub_cancel] at h3
  rw [bl_eq (k := j + k)]
  · omega
  · rw [Nat.pow_add]
    exact Nat.le_trans (Nat.mul_le_mul_right _ h3) (Nat.div_mul_le_self n (2 ^ k))
  · rw [show j + k + 1 = (j + 1) + k from by omega, Nat.pow_add]
    exact (Nat.div_lt_iff_lt_mul (Nat.two_pow_pos k)).1 h4
/-- Word i of n. -/
@[irreducible] def wd (i n : Nat) : Nat := n / 2 ^ (64 * i) % 18446744073709551616
theorem wd_u64 (i n : Nat) : U64 (wd i n) := by unfold wd U64; omega
/-- n has at most four words. -/
def U256 (n : Nat) : Prop := n < 2 ^ 256
theorem U256.out {n : Nat} (h : U256 n) : n < 2 ^ 256 := h
abbrev W4 (n : Nat) : Value := .agg #[.int .u64 (wd 0 n), .int .u64 (wd 1 n), .int .u64 (wd 2 n), .int .u64 (wd 3 n)]
theorem wd0 (n : Nat) : wd 0 n = n % 18446744073709551616 := by unfold wd; simp
theorem wd1 (n : Nat) : wd 1 n = n / 18446744073709551616 % 18446744073709551616 := by unfold wd; rfl
theorem wd2 (n : Nat) : wd 2 n = n / 340282366920938463463374607431768211456 % 18446744073709551616 := by unfold wd; rfl
theorem wd3 (n : Nat) : wd 3 n = n / 6277101735386680763835789423207666416102355444464034512896 % 18446744073709551616 := by unfold wd; rfl
/-- The number of four words. -/
def of4 (a b c d : Nat) : Nat := a + 18446744073709551616 * b + 340282366920938463463374607431768211456 * c + 6277101735386680763835789423207666416102355444464034512896 * d
theorem of4_wd {n : Nat} (h : U256 n) : of4 (wd 0 n) (wd 1 n) (wd 2 n) (wd 3 n) = n := by
  have h := h.out; rw [wd0, wd1, wd2, wd3]; unfold of4; omega
theorem of4_lt {a b c d : Nat} (ha : U64 a) (hb : U64 b) (hc : U64 c) (hd : U64 d) : U256 (of4 a b c d) := by
  have := ha.out; have := hb.out; have := hc.out; have := hd.out; unfold of4 U256; omega
theorem wd_of4 {a b c d : Nat} (ha : U64 a) (hb : U64 b) (hc : U64 c) (hd : U64 d) : wd 0 (of4 a b c d) = a ∧ wd 1 (of4 a b c d) = b ∧ wd 2 (of4 a b c d) = c ∧ wd 3 (of4 a b c d) = d := by
  have := ha.out; have := hb.out; have := hc.out; have := hd.out; rw [wd0, wd1, wd2, wd3]; unfold of4; omega
/-- Four words that make n are n's. -/
theorem words_eq {n a b c d : Nat} (ha : U64 a) (hb : U64 b) (hc : U64 c) (hd : U64 d) (h : of4 a b c d = n) : W4 n = .agg #[.int .u64 a, .int .u64 b, .int .u64 c, .int .u64 d] := by
  subst h
  obtain ⟨h0, h1, h2, h3⟩ := wd_of4 ha hb hc hd
  unfold W4; rw [h0, h1, h2, h3]
theorem bl_3 {n : Nat} (h : U256 n) (h3 : wd 3 n ≠ 0) : bl n = 192 + bl (wd 3 n) := by
  have e : n / 2 ^ 192 = wd 3 n := by have := h.out; rw [wd3]; omega
  rw [← e] at h3 ⊢
  rw [bl_high h3]; omega
theorem bl_2 {n : Nat} (h : U256 n) (h3 : wd 3 n = 0) (h2 : wd 2 n ≠ 0) : bl n = 128 + bl (wd 2 n) := by
  have e : n / 2 ^ 128 = wd 2 n := by have := h.out; rw [wd3] at h3; rw [wd2]; omega
  rw [← e] at h2 ⊢
  rw [bl_high h2]; omega
theorem bl_1 {n : Nat} (h : U256 n) (h3 : wd 3 n = 0) (h2 : wd 2 n = 0) (h1 : wd 1 n ≠ 0) : bl n = 64 + bl (wd 1 n) := by
  have e : n / 2 ^ 64 = wd 1 n := by have := h.out; rw [wd3] at h3; rw [wd2] at h2; rw [wd1]; omega
  rw [← e] at h1 ⊢
  rw [bl_high h1]; omega
theorem bl_0 {n : Nat} (h : U256 n) (h3 : wd 3 n = 0) (h2 : wd 2 n = 0) (h1 : wd 1 n = 0) : n = wd 0 n := by
  have := h.out; rw [wd3] at h3; rw [wd2] at h2; rw [wd1] at h1; rw [wd0]; omega
theorem bl_word_le {x : Nat} (h : U64 x) : bl x ≤ 64 := bl_le.2 h
theorem bl_words {n : Nat} (h : U256 n) : (wd 3 n ≠ 0 → bl n = 192 + bl (wd 3 n)) ∧ (wd 3 n = 0 → wd 2 n ≠ 0 → bl n = 128 + bl (wd 2 n)) ∧ (wd 3 n = 0 → wd 2 n = 0 → wd 1 n ≠ 0 → bl n = 64 + bl (wd 1 n)) ∧ (wd 3 n = 0 → wd 2 n = 0 → wd 1 n = 0 → bl n = bl (wd 0 n)) ∧ (wd 3 n = 0 → wd 2 n = 0 → wd 1 n = 0 → wd 0 n = 0 → bl n = 0) :=
  ⟨bl_3 h, bl_2 h, bl_1 h, fun a b c => by rw [← bl_0 h a b c], fun a b c d => by rw [bl_0 h a b c, d, bl_zero]⟩
end Go.Proofs.YtldmbneckcjonaaDoor
