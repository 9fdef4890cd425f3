/- Several texts in one: Natural numbers as lists of digits to the base 2^24: plain arithmetic. No program in sight. · A product, digit by digit: plain arithmetic. · A slice of ints that reads as the lowest digits of a number; kept over what the program does. No conditions. · Of softfloatref: plus, trim, minus, nat, cmp, size: natural numbers as slices of digits. · Of softfloatref: trim, minus, nat, cmp, size. · Of softfloatref: cmp. · Of softfloatref: times. · Of softfloatref: up. · Of softfloatref: over, root: quotients and roots, bit by bit. · Of softfloatref: root: the greatest number whose square is not above a. · Of softfloatref: down: a number without its last k bits. · Of softfloatref: down, where digits are left. -/
import Derived.RowKit3
import Derived.Below
import Derived.Laws.OwnMore
import Derived.Deep.AppendLies
import Derived.Deep.Draws
import Derived.Laws.Rows
import Derived.Lib.Hide
import Derived.OwnWalk
import Derived.Deep.QuietTactic
import Derived.BigQuiet
import Derived.Laws.MakeOwn
import Derived.Test.YtldmbneckcjonaaDoorGA
import Derived.Test.YtldmbneckcjonaaDoorChecked
set_option linter.unusedVariables false
set_option linter.unusedSimpArgs false
namespace Go.Proofs.YtldmbneckcjonaaDoor
/-- The base, behind a name. -/
@[irreducible] def BB : Nat := 16777216
theorem BB_eq : BB = 16777216 := by unfold BB; rfl
theorem BB_pos : 0 < BB := by rw [BB_eq]; omega
theorem two24 : (2 : Nat) ^ 24 = BB := by rw [BB_eq]
/-- Digit i of n. -/
@[irreducible] def dg (n i : Nat) : Nat := n / BB ^ i % BB
theorem dg_lt (n i : Nat) : dg n i < BB := by unfold dg; exact Nat.mod_lt _ BB_pos
theorem powBB_pos (k : Nat) : 0 < BB ^ k := Nat.pow_pos BB_pos
theorem pow24 (k : Nat) : 2 ^ (24 * k) = BB ^ k := by rw [Nat.pow_mul, two24]
/-- How many digits. -/
@[irreducible] def nd (n : Nat) : Nat := (bl n + 23) / 24
theorem nd_le {n k : Nat} : nd n ≤ k ↔ n < BB ^ k := by
  rw [← pow24, ← bl_le]; unfold nd; omega
theorem lt_nd {n k : Nat} : k < nd n ↔ BB ^ k ≤ n := by
  have := nd_le (n := n) (k := k); omega
theorem lt_pow_nd (n : Nat) : n < BB ^ nd n := nd_le.1 (Nat.le_refl _)
theorem nd_zero : nd 0 = 0 := by unfold nd; rw [bl_zero]
theorem nd_eq_zero {n : Nat} : nd n = 0 ↔ n = 0 := by
  constructor
  · intro h
    have := lt_pow_nd n
    rw [h, Nat.pow_zero] at this; omega
  · rintro rfl; exact nd_zero
theorem nd_pos {n : Nat} : 0 < nd n ↔ n ≠ 0 := by have := nd_eq_zero (n := n); omega
theorem nd_mono {a b : Nat} (h : a ≤ b) : nd a ≤ nd b := nd_le.2 (Nat.lt_of_le_of_lt h (lt_pow_nd b))
theorem nd_bl (n : Nat) : bl n ≤ 24 * nd n ∧ 24 * nd n ≤ bl n + 23 := by unfold nd; omega
theorem dg_high {n i : Nat} (h : nd n ≤ i) : dg n i = 0 := by
  unfold dg; rw [Nat.div_eq_of_lt (nd_le.1 h)]; exact Nat.zero_mod _
/-- The lowest k digits as a number. -/
theorem mod_succ (n k : Nat) : n % BB ^ (k + 1) = n % BB ^ k + BB ^ k * dg n k := by
  unfold dg; rw [Nat.pow_succ, Nat.mod_mul]
theorem div_split (n k : Nat) : n / BB ^ k = dg n k + BB * (n / BB ^ (k + 1)) := by
  unfold dg; rw [Nat.pow_succ, ← Nat.div_div_eq_div_mul]; have := Nat.mod_add_div (n / BB ^ k) BB; omega
theorem dg_mod {n k i : Nat} (h : i < k) : dg (n % BB ^ k) i = dg n i := by
  unfold dg
  obtain ⟨j, rfl⟩ : ∃ j, k = i + (j + 1) := ⟨k - i - 1, by omega⟩
  rw [Nat.pow_add, Nat.mod_mul_right_div_self, Nat.pow_succ, Nat.mul_comm (BB ^ j), Nat.mod_mul_right_mod]
theorem dg_top {n k : Nat} (h : nd n = k + 1) : dg n k ≠ 0 ∧ dg n k = n / BB ^ k := by
  have h1 := lt_pow_nd n
  rw [h, Nat.pow_succ] at h1
  have h2 : BB ^ k ≤ n := lt_nd.1 (by omega)
  have h3 : n / BB ^ k < BB := (Nat.div_lt_iff_lt_mul (powBB_pos k)).2 (by rw [Nat.mul_comm]; exact h1)
  have h4 : 0 < n / BB ^ k := Nat.div_pos h2 (powBB_pos k)
  unfold dg; rw [Nat.mod_eq_of_lt h3]; exact ⟨by omega, rfl⟩
theorem dg_eq_of {n k d r q : Nat} (hn : n = r + BB ^ k * (d + BB * q)) (hr : r < BB ^ k) (hd : d < BB) : dg n k = d := by
  unfold dg
  have : n / BB ^ k = d + BB * q := by rw [hn, Nat.add_mul_div_left _ _ (powBB_pos k), Nat.div_eq_of_lt hr, Nat.zero_add]
  rw [this, Nat.add_mul_mod_self_left, Nat.mod_eq_of_lt hd]
/-- The lowest k digits, as cells. -/
@[irreducible] def lows (k n : Nat) : List Value := (List.range k).map fun i => Value.int .i64 (dg n i)
theorem lows_zero (n : Nat) : lows 0 n = [] := by unfold lows; rfl
theorem lows_length (k n : Nat) : (lows k n).length = k := by unfold lows; simp
theorem lows_succ (k n : Nat) : lows (k + 1) n = lows k n ++ [.int .i64 (dg n k)] := by unfold lows; rw [List.range_succ, List.map_append]; rfl
theorem lows_get {k n i : Nat} (h : i < k) : (lows k n)[i]? = some (.int .i64 (dg n i)) := by
  unfold lows; simp [List.getElem?_map, List.getElem?_range h]
theorem lows_congr {k n m : Nat} (h : ∀ i, i < k → dg n i = dg m i) : lows k n = lows k m := by
  unfold lows
  apply List.map_congr_left
  intro i hi
  rw [h i (List.mem_range.1 hi)]
theorem lows_mod (k n : Nat) : lows k (n % BB ^ k) = lows k n := lows_congr fun _ hi => dg_mod hi
theorem lows_take {j k n : Nat} (h : j ≤ k) : (lows k n).take j = lows j n := by
  unfold lows; rw [← List.map_take, List.take_range, Nat.min_eq_left h]
theorem lows_all0 {k n : Nat} (h : n % BB ^ k = 0) : lows k n = List.replicate k (.int .i64 0) := by
  apply List.ext_getElem?
  intro i
  by_cases hi : i < k
  · rw [lows_get hi, List.getElem?_replicate, if_pos hi, ← dg_mod hi, h]
    have : dg 0 i = 0 := dg_high (by rw [nd_zero]; omega)
    rw [this]; rfl
  · rw [List.getElem?_eq_none (by rw [lows_length]; omega), List.getElem?_eq_none (by simp; omega)]
theorem lows_set {k n m i : Nat} (hi : i < k) (h : ∀ j, j < k → j ≠ i → dg n j = dg m j) : (lows k n).set i (.int .i64 (dg m i)) = lows k m := by
  apply List.ext_getElem?
  intro j
  rw [List.getElem?_set]
  by_cases hj : j < k
  · by_cases e : i = j
    · subst e; rw [if_pos rfl, if_pos (by rw [lows_length]; exact hi), lows_get hi]
    · rw [if_neg e, lows_get hj, lows_get hj, h j hj (by omega)]
  · rw [if_neg (by omega), List.getElem?_eq_none (by rw [lows_length]; omega), List.getElem?_eq_none (by rw [lows_length]; omega)]
/-- Digits shifted up. -/
theorem dg_shift (n k i : Nat) : dg (BB ^ k * n) (k + i) = dg n i := by
  unfold dg; rw [Nat.pow_add, ← Nat.div_div_eq_div_mul, Nat.mul_div_cancel_left _ (powBB_pos k)]
theorem lows_shift (j k n : Nat) : lows (j + k) (BB ^ j * n) = List.replicate j (.int .i64 0) ++ lows k n := by
  apply List.ext_getElem?
  intro i
  by_cases hi : i < j
  · rw [lows_get (by omega), List.getElem?_append_left (by simp; exact hi), List.getElem?_replicate, if_pos hi]
    have : dg (BB ^ j * n) i = 0 := by
      unfold dg
      obtain ⟨q, rfl⟩ : ∃ q, j = i + (q + 1) := ⟨j - i - 1, by omega⟩
      rw [Nat.pow_add, Nat.mul_assoc, Nat.mul_div_cancel_left _ (powBB_pos i), Nat.pow_succ, Nat.mul_comm (BB ^ q), Nat.mul_assoc]
      exact Nat.mul_mod_right _ _
    rw [this]; rfl
  · rw [List.getElem?_append_right (by simp; omega), List.length_replicate]
    by_cases hk : i < j + k
    · rw [lows_get hk, lows_get (by omega)]
      obtain ⟨q, rfl⟩ : ∃ q, i = j + q := ⟨i - j, by omega⟩
      rw [dg_shift, Nat.add_sub_cancel_left]
    · rw [List.getElem?_eq_none (by rw [lows_length]; omega), List.getElem?_eq_none (by rw [lows_length]; omega)]
/-- A sum's digits, one after the other. -/
def carryN (a b k : Nat) : Nat := (a % BB ^ k + b % BB ^ k) / BB ^ k
theorem carry_step (a b k : Nat) : carryN a b k + dg a k + dg b k = dg (a + b) k + BB * carryN a b (k + 1) ∧ carryN a b k ≤ 1 := by
  unfold carryN
  have p := powBB_pos k
  have ha := Nat.mod_lt a p
  have hb := Nat.mod_lt b p
  have h1 : (a % BB ^ k + b % BB ^ k) / BB ^ k ≤ 1 := by
    have : (a % BB ^ k + b % BB ^ k) / BB ^ k < 2 := (Nat.div_lt_iff_lt_mul p).2 (by omega)
    omega
  refine ⟨?_, h1⟩
  have e1 := mod_succ a k
  have e2 := mod_succ b k
  have e3 : (a % BB ^ (k + 1) + b % BB ^ (k + 1)) / BB ^ k = (a % BB ^ k + b % BB ^ k) / BB ^ k + dg a k + dg b k := by
    rw [e1, e2, show a % BB ^ k + BB ^ k * dg a k + (b % BB ^ k + BB ^ k * dg b k) = (a % BB ^ k + b % BB ^ k) + BB ^ k * (dg a k + dg b k) from by rw [Nat.mul_add]; omega, Nat.add_mul_div_left _ _ p]; omega
  have e4 : (a % BB ^ (k + 1) + b % BB ^ (k + 1)) / BB ^ (k + 1) = (a % BB ^ (k + 1) + b % BB ^ (k + 1)) / BB ^ k / BB := by rw [Nat.pow_succ, Nat.div_div_eq_div_mul]
  have e5 : dg (a + b) k = ((a % BB ^ k + b % BB ^ k) / BB ^ k + dg a k + dg b k) % BB := by
    rw [← e3]
    have : dg (a + b) k = dg (a % BB ^ (k + 1) + b % BB ^ (k + 1)) k := by
      rw [← dg_mod (n := a + b) (Nat.lt_succ_self k), Nat.add_mod, dg_mod (Nat.lt_succ_self k)]
    rw [this]; unfold dg; rfl
  rw [e5, e4, e3]
  exact (Nat.mod_add_div _ _).symm
theorem carry_zero (a b : Nat) : carryN a b 0 = 0 := by unfold carryN; simp [Nat.mod_one]
/-- Where no carry is left and both are through, the sum has just these digits. -/
theorem carry_end {a b k : Nat} (ha : nd a ≤ k) (hb : nd b ≤ k) (h : carryN a b k = 0) : nd (a + b) ≤ k := by
  unfold carryN at h
  rw [Nat.mod_eq_of_lt (nd_le.1 ha), Nat.mod_eq_of_lt (nd_le.1 hb)] at h
  exact nd_le.2 (Nat.lt_of_div_eq_zero (powBB_pos k) h)
/-- As long as something is left, there is a digit more. -/
theorem carry_more {a b k : Nat} (h : k < nd a ∨ k < nd b ∨ carryN a b k ≠ 0) : k < nd (a + b) := by
  rw [lt_nd, lt_nd] at h
  rw [lt_nd]
  rcases h with h | h | h
  · omega
  · omega
  · unfold carryN at h
    rcases Nat.lt_or_ge (a + b) (BB ^ k) with hlt | hge
    · have : a % BB ^ k + b % BB ^ k ≤ a + b := Nat.add_le_add (Nat.mod_le _ _) (Nat.mod_le _ _)
      exact absurd (Nat.div_eq_of_lt (by omega)) h
    · exact hge
/-- A difference's digits. -/
def lentN (a b k : Nat) : Nat := if a % BB ^ k < b % BB ^ k then 1 else 0
theorem lent_step {a b : Nat} (h : b ≤ a) (k : Nat) : dg a k + BB * lentN a b (k + 1) = dg (a - b) k + dg b k + lentN a b k := by
  obtain ⟨c, rfl⟩ : ∃ c, a = b + c := ⟨a - b, by omega⟩
  rw [Nat.add_sub_cancel_left]
  have hl : ∀ j, lentN (b + c) b j = carryN b c j := by
    intro j
    unfold lentN carryN
    have p := powBB_pos j
    have hb := Nat.mod_lt b p
    have hc := Nat.mod_lt c p
    rw [Nat.add_mod]
    by_cases hs : b % BB ^ j + c % BB ^ j < BB ^ j
    · rw [Nat.mod_eq_of_lt hs, Nat.div_eq_of_lt hs, if_neg (Nat.not_lt.2 (Nat.le_add_right _ _))]
    · have e1 : (b % BB ^ j + c % BB ^ j) % BB ^ j = b % BB ^ j + c % BB ^ j - BB ^ j := by
        rw [Nat.mod_eq_sub_mod (by omega), Nat.mod_eq_of_lt (by omega)]
      have e2 : (b % BB ^ j + c % BB ^ j) / BB ^ j = 1 := by
        have h1 : 1 ≤ (b % BB ^ j + c % BB ^ j) / BB ^ j := (Nat.le_div_iff_mul_le p).2 (by omega)
        have h2 : (b % BB ^ j + c % BB ^ j) / BB ^ j < 2 := (Nat.div_lt_iff_lt_mul p).2 (by omega)
        omega
      rw [e1, e2, if_pos (by omega)]
  rw [hl, hl]
  have := (carry_step b c k).1
  omega
theorem lent_zero (a b : Nat) : lentN a b 0 = 0 := by unfold lentN; simp [Nat.mod_one]
theorem lent_le (a b k : Nat) : lentN a b k ≤ 1 := by unfold lentN; split <;> omega
/-- Order, from the highest digit on. -/
theorem cmp_nd {a b : Nat} (h : nd a < nd b) : a < b := by
  rcases Nat.lt_or_ge a b with h1 | h1
  · exact h1
  · have := nd_mono h1; omega
theorem cmp_dg {a b k : Nat} (h : a / BB ^ (k + 1) = b / BB ^ (k + 1)) : (dg a k < dg b k → a < b) ∧ (dg a k = dg b k → a / BB ^ k = b / BB ^ k) := by
  have ea := div_split a k
  have eb := div_split b k
  rw [h] at ea
  refine ⟨fun hlt => ?_, fun he => by omega⟩
  have : a / BB ^ k < b / BB ^ k := by omega
  rcases Nat.lt_or_ge a b with h1 | h1
  · exact h1
  · have := Nat.div_le_div_right (c := BB ^ k) h1; omega
/-- How many bits, by the highest digit. -/
theorem bl_dg {n k : Nat} (h : nd n = k + 1) : bl n = 24 * k + bl (dg n k) := by
  obtain ⟨h1, h2⟩ := dg_top h
  rw [h2] at h1 ⊢
  rw [← pow24] at h1 ⊢
  rw [bl_high h1]; omega
end Go.Proofs.YtldmbneckcjonaaDoor
namespace Go.Proofs.YtldmbneckcjonaaDoor
/-- C with another digit p. -/
@[irreducible] def setD (C p z : Nat) : Nat := C % BB ^ p + BB ^ p * (z + BB * (C / BB ^ (p + 1)))
theorem setD_val (C p z : Nat) : setD C p z + BB ^ p * dg C p = C + BB ^ p * z := by
  have h1 := Nat.mod_add_div C (BB ^ p)
  have h2 := div_split C p
  unfold setD
  rw [h2, Nat.mul_add] at h1
  rw [Nat.mul_add]
  omega
theorem dg_setD_same {C p z : Nat} (hz : z < BB) : dg (setD C p z) p = z := by
  unfold setD; exact dg_eq_of rfl (Nat.mod_lt _ (powBB_pos p)) hz
theorem dg_setD_other {C p z q : Nat} (hz : z < BB) (h : q ≠ p) : dg (setD C p z) q = dg C q := by
  rcases Nat.lt_or_gt_of_ne h with h | h
  · rw [← dg_mod (n := setD C p z) h, ← dg_mod (n := C) h]
    unfold setD
    rw [Nat.add_mul_mod_self_left, Nat.mod_mod]
  · obtain ⟨r, rfl⟩ : ∃ r, q = (p + 1) + r := ⟨q - p - 1, by omega⟩
    have e : setD C p z / BB ^ (p + 1) = C / BB ^ (p + 1) := by
      unfold setD
      rw [Nat.pow_succ, ← Nat.div_div_eq_div_mul, Nat.add_mul_div_left _ _ (powBB_pos p), Nat.div_eq_of_lt (Nat.mod_lt _ (powBB_pos p)), Nat.zero_add, Nat.add_mul_div_left _ _ BB_pos, Nat.div_eq_of_lt hz, Nat.zero_add]
    unfold dg
    rw [Nat.pow_add, ← Nat.div_div_eq_div_mul, ← Nat.div_div_eq_div_mul, e]
theorem lows_setD {N C p z : Nat} (hz : z < BB) (hp : p < N) : (lows N C).set p (.int .i64 z) = lows N (setD C p z) := by
  have := lows_set (k := N) (n := C) (m := setD C p z) hp fun j _ hj => (dg_setD_other hz hj).symm
  rw [dg_setD_same hz] at this
  exact this
/-- What holds in the inner loop: C the number so far, cy the carry. -/
def MulInv (a b k j C cy : Nat) : Prop := C + BB ^ (k + j) * cy = (a % BB ^ k) * b + BB ^ k * (dg a k * (b % BB ^ j)) ∧ cy < BB
theorem mulInv_start (a b k : Nat) : MulInv a b k 0 ((a % BB ^ k) * b) 0 := by
  unfold MulInv; rw [Nat.pow_zero, Nat.mod_one]; exact ⟨by simp, BB_pos⟩
theorem mulInv_end {a b k j C : Nat} (h : MulInv a b k j C 0) (hj : nd b ≤ j) : C = (a % BB ^ (k + 1)) * b := by
  obtain ⟨h, _⟩ := h
  rw [Nat.mul_zero, Nat.add_zero, Nat.mod_eq_of_lt (nd_le.1 hj)] at h
  rw [h, mod_succ, Nat.add_mul, Nat.mul_assoc]
theorem mulInv_room {a b k j C cy : Nat} (h : MulInv a b k j C cy) (hc : cy ≠ 0) : j ≤ nd b := by
  obtain ⟨h, _⟩ := h
  have h1 : a % BB ^ (k + 1) < BB ^ (k + 1) := Nat.mod_lt _ (powBB_pos _)
  have h2 := lt_pow_nd b
  have h3 : (a % BB ^ (k + 1)) * b < BB ^ (k + 1) * BB ^ nd b := Nat.mul_lt_mul_of_le_of_lt (Nat.le_of_lt h1) h2 (powBB_pos _)
  have h4 : (a % BB ^ k) * b + BB ^ k * (dg a k * (b % BB ^ j)) ≤ (a % BB ^ (k + 1)) * b := by
    rw [mod_succ, Nat.add_mul, Nat.mul_assoc]
    exact Nat.add_le_add_left (Nat.mul_le_mul_left _ (Nat.mul_le_mul_left _ (Nat.mod_le _ _))) _
  have h5 : BB ^ (k + j) ≤ BB ^ (k + j) * cy := Nat.le_mul_of_pos_right _ (by omega)
  have h6 : BB ^ (k + j) < BB ^ (k + 1 + nd b) := by rw [Nat.pow_add BB (k + 1)]; omega
  have h7 := (Nat.pow_lt_pow_iff_right (a := BB) (by rw [BB_eq]; omega)).1 h6
  omega
theorem mulInv_step {a b k j C cy : Nat} (h : MulInv a b k j C cy) :
    ∃ z cy', dg C (k + j) + cy + dg a k * dg b j = z + BB * cy' ∧ z < BB ∧ MulInv a b k (j + 1) (setD C (k + j) z) cy' := by
  obtain ⟨h, hc⟩ := h
  refine ⟨(dg C (k + j) + cy + dg a k * dg b j) % BB, (dg C (k + j) + cy + dg a k * dg b j) / BB, (Nat.mod_add_div _ _).symm, Nat.mod_lt _ BB_pos, ?_, ?_⟩
  · have hs := setD_val C (k + j) ((dg C (k + j) + cy + dg a k * dg b j) % BB)
    have hn := Nat.mod_add_div (dg C (k + j) + cy + dg a k * dg b j) BB
    generalize (dg C (k + j) + cy + dg a k * dg b j) % BB = z at *
    generalize (dg C (k + j) + cy + dg a k * dg b j) / BB = cy' at *
    generalize setD C (k + j) z = C' at *
    rw [mod_succ b j, Nat.mul_add, Nat.mul_add, ← Nat.add_assoc (a % BB ^ k * b), ← h]
    have e1 : BB ^ (k + (j + 1)) * cy' = BB ^ (k + j) * (BB * cy') := by rw [← Nat.add_assoc, Nat.pow_succ, Nat.mul_assoc]
    have e2 : BB ^ k * (dg a k * (BB ^ j * dg b j)) = BB ^ (k + j) * (dg a k * dg b j) := by
      rw [Nat.pow_add, Nat.mul_left_comm (dg a k), Nat.mul_assoc]
    rw [e1, e2]
    have e3 : BB ^ (k + j) * (z + BB * cy') = BB ^ (k + j) * (dg C (k + j) + cy + dg a k * dg b j) := by rw [hn]
    rw [Nat.mul_add, Nat.mul_add, Nat.mul_add] at e3
    generalize BB ^ (k + j) * (BB * cy') = t1 at *
    generalize BB ^ (k + j) * (dg a k * dg b j) = t2 at *
    generalize BB ^ (k + j) * dg C (k + j) = t3 at *
    generalize BB ^ (k + j) * cy = t4 at *
    generalize BB ^ (k + j) * z = t5 at *
    omega
  · have h1 := dg_lt C (k + j)
    have h2 := dg_lt a k
    have h3 := dg_lt b j
    rw [BB_eq] at *
    have h4 : dg a k * dg b j ≤ 16777215 * 16777215 := Nat.mul_le_mul (by omega) (by omega)
    omega
theorem mul_bound {a b k j : Nat} : dg a k * dg b j ≤ 281474943156225 := by
  have h2 := dg_lt a k
  have h3 := dg_lt b j
  rw [BB_eq] at *
  have h4 : dg a k * dg b j ≤ 16777215 * 16777215 := Nat.mul_le_mul (by omega) (by omega)
  omega
theorem nd_mul (a b : Nat) : nd (a * b) ≤ nd a + nd b := by
  rw [nd_le, Nat.pow_add]
  rcases Nat.eq_zero_or_pos b with rfl | hb
  · rw [Nat.mul_zero]; exact Nat.mul_pos (powBB_pos _) (powBB_pos _)
  · exact Nat.mul_lt_mul_of_lt_of_le (lt_pow_nd a) (Nat.le_of_lt (lt_pow_nd b)) (powBB_pos _)
end Go.Proofs.YtldmbneckcjonaaDoor
namespace Go.Proofs.YtldmbneckcjonaaDoor
open Go.RowKit
theorem info3 : (Tryd.prog.info? 3).map (fun i => (i.zero, i.size, i.bytes)) = some (some (.int .i64 0), 1, 8) := by kernel_rfl
/-- The cells from A on are the lowest k digits of n. -/
def IsL (w : World) (A : Option Addr) (k n : Nat) : Prop := 0 < k → ∃ ad, A = some ad ∧ ∀ i, i < k → w.cell? (ad.add i) = some (.int .i64 (dg n i))
section
variable {w w' : World} {A : Option Addr} {k n : Nat}
theorem IsL.none_ : IsL w A 0 n := fun h => absurd h (by omega)
theorem IsL.at_ {i : Nat} (h : IsL w A k n) (hi : i < k) : ∃ ad, A = some ad ∧ w.cell? (ad.add i) = some (.int .i64 (dg n i)) := by
  obtain ⟨ad, e, hc⟩ := h (by omega)
  exact ⟨ad, e, hc i hi⟩
theorem IsL.keep (h : IsL w A k n) (hk : ∀ p : Addr, p.block < w.heap.size → w'.cell? p = w.cell? p) : IsL w' A k n := fun h0 => by
  obtain ⟨ad, e, hc⟩ := h h0
  refine ⟨ad, e, fun i hi => ?_⟩
  rw [hk _ (World.block_lt_of_cell? _ _ (hc i hi))]; exact hc i hi
theorem IsL.below {B : Nat} (h : IsL w A k n) (hB : w.heap.size ≤ B) (hb : Below B w w') : IsL w' A k n := h.keep fun _ hp => hb.cell (by omega)
theorem IsL.low {j : Nat} (h : IsL w A k n) (hj : j ≤ k) : IsL w A j n := fun h0 => by
  obtain ⟨ad, e, hc⟩ := h (by omega)
  exact ⟨ad, e, fun i hi => hc i (by omega)⟩
theorem IsL.of_own {base : Nat} {e : TypeId} {c : Nat} (h : w.ownsRow base e 1 (.slice A k c) k (lows k n)) : IsL w A k n := fun h0 => by
  rcases h.2 with ⟨_, hn⟩ | ⟨g, cap, cur, hv, _, hg, hn, _, hs, ht⟩
  · omega
  · have hA : A = some ⟨g, 0, none⟩ := by injection hv
    refine ⟨⟨g, 0, none⟩, hA, fun i hi => ?_⟩
    have e1 : (⟨g, 0, none⟩ : Addr).add i = ⟨g, i, none⟩ := by
      unfold Addr.add; split
      · rename_i h; subst h; rfl
      · simp
    rw [e1, cell_of_row w g i cur e (0, 0) hg, ← lows_get hi, ← ht, List.getElem?_take, if_pos (by omega)]
    simp
/-- A slice's block is new: not below B. -/
def Fr (B : Nat) (A : Option Addr) : Prop := ∀ ad, A = some ad → B ≤ ad.block
theorem Fr.nil (B : Nat) : Fr B none := fun _ h => by cases h
theorem Fr.new {B g o : Nat} (h : B ≤ g) : Fr B (some ⟨g, o, none⟩) := fun ad e => by injection e with e; subst e; exact h
theorem Fr.mono {B B' : Nat} {A : Option Addr} (h : Fr B A) (hb : B' ≤ B) : Fr B' A := fun ad e => Nat.le_trans hb (h ad e)
theorem own_cap {base size m : Nat} {e : TypeId} {v : Value} {xs : List Value} (h : w.ownsRow base e size v m xs) : ∃ A c, v = .slice A m c ∧ m ≤ c ∧ (c ≤ maxLen ∧ Fr base A) ∧ (m = 0 ∨ ∃ g, base ≤ g ∧ g < w.heap.size ∧ A = some ⟨g, 0, none⟩) := by
  rcases h.2 with ⟨rfl, hn⟩ | ⟨g, cap, cur, hv, hb, hg, hn, hm, _⟩
  · subst hn; exact ⟨none, 0, rfl, Nat.le_refl _, ⟨Nat.zero_le _, Fr.nil _⟩, .inl rfl⟩
  · refine ⟨_, cap, hv, hn, ⟨hm, Fr.new hb⟩, .inr ⟨g, hb, ?_, rfl⟩⟩
    rcases Nat.lt_or_ge g w.heap.size with hlt | hge
    · exact hlt
    · rw [Array.getElem?_eq_none hge] at hg; cases hg
end
theorem new_cell1 (w : World) (v : Value) (t : TypeId) : ∀ j u, [v][j]? = some u → (w.alloc (.cells #[v] t)).cell? ((⟨w.heap.size, 0, none⟩ : Addr).add j) = some u := by
  intro j u h
  match j with
  | 0 =>
    have e : v = u := by simpa using h
    subst e
    rw [show (⟨w.heap.size, 0, none⟩ : Addr).add 0 = ⟨w.heap.size, 0, none⟩ from rfl]; go_simp
  | j + 1 => simp at h
theorem one_int (n : Int) : ∀ u ∈ [Value.int .i64 n], u.oneCell' = true := by
  intro u hu; rw [List.mem_singleton.1 hu]; rfl
theorem own_ge {w : World} {base size m : Nat} {e : TypeId} {v : Value} {xs : List Value} (h : w.ownsRow base e size v m xs) : ∀ g, v.ownBlock = some g → base ≤ g := by
  intro g hg
  rcases h.2 with ⟨rfl, _⟩ | ⟨g', cap, cur, rfl, hb, _⟩
  · cases hg
  · have : g' = g := by simpa [Value.ownBlock] using hg
    omega
/-- Behind an append of one number to a row of the call's own. -/
theorem below_append {W w w1 : World} {o : Obj} {size m : Nat} {e : TypeId} {v : Value} {xs : List Value} (hB : Below W.heap.size W w) (hown : w.ownsRow W.heap.size e size v m xs) (hg : (w.alloc o).grownBy w1 v.ownBlock) : Below W.heap.size W w1 :=
  (hB.alloc hB.size o).grown hg (by have := hB.size; simp; omega) fun g h => own_ge hown g h
/-- What a function of numbers gives: a slice that reads as n; the old memory as it was. -/
def NatOut (n : Nat) (w : World) (e : Ending) (w' : World) : Prop := ∃ A c, e = .returned (.slice A (nd n) c) ∧ nd n ≤ c ∧ (c ≤ maxLen ∧ Fr w.heap.size A) ∧ IsL w' A (nd n) n ∧ Below w.heap.size w w'
/-- A bound under which nothing wraps: at most a million bits. -/
def Mod (n : Nat) : Prop := bl n ≤ 1000000
theorem Mod.nd {n : Nat} (h : Mod n) : nd n ≤ 41667 := by unfold Mod at h; have := nd_bl n; omega
end Go.Proofs.YtldmbneckcjonaaDoor
namespace Go.Proofs.YtldmbneckcjonaaDoor
open Go.RowKit
set_option maxRecDepth 100000 in
set_option maxHeartbeats 400000 in
theorem rplus_any (A B : Option Addr) (ca cb a b : Nat) (w : World) (hA : IsL w A (nd a) a) (hB : IsL w B (nd b) b) (ma : Mod a) (mb : Mod b) (mab : Mod (a + b)) :
    Calls Tryd.prog 101 #[.slice A (nd a) ca, .slice B (nd b) cb] w (NatOut (a + b) w) := by
  have la := ma.nd
  have lb := mb.nd
  have lab := mab.nd
  obtain ⟨i0, hi, hz0, hz1, hz2⟩ := info_parts info3
  go_enter Tryd.func101, Tryd.ntmps101
  go_wp2
  go_loopw [5, 6, 7] (fun c cy i wr => ∃ k : Nat, i = .int .i64 k ∧ cy = .int .i64 (carryN a b k) ∧ k ≤ nd (a + b) ∧ wr.ownsRow w.heap.size 3 1 c k (lows k (a + b)) ∧ Below w.heap.size w wr) (fun _ _ i _ => nd (a + b) - (intOf i).toNat)
  case atStart =>
    exact ⟨0, rfl, by rw [carry_zero]; rfl, Nat.zero_le _, ⟨by rw [lows_zero]; rfl, .inl ⟨rfl, rfl⟩⟩, Below.refl _ _⟩
  case round =>
    obtain ⟨k, rfl, rfl, hk, hown, hB0⟩ := hrel
    obtain ⟨hs, hc1⟩ := carry_step a b k
    have hd := dg_lt (a + b) k
    have hda := dg_lt a k
    have hdb := dg_lt b k
    have hma := carry_more (a := a) (b := b) (k := k)
    have hend := carry_end (a := a) (b := b) (k := k)
    have hxa := fun h => dg_high (n := a) (i := k) h
    have hxb := fun h => dg_high (n := b) (i := k) h
    have hls := lows_succ k (a + b)
    have hca : k < nd a → ∃ ad, A = some ad ∧ wr.cell? (ad.add k) = some (.int .i64 (dg a k)) := fun h => (hA.below (Nat.le_refl _) hB0).at_ h
    have hcb : k < nd b → ∃ ad, B = some ad ∧ wr.cell? (ad.add k) = some (.int .i64 (dg b k)) := fun h => (hB.below (Nat.le_refl _) hB0).at_ h
    by_cases hmore : k < nd a ∨ k < nd b ∨ carryN a b k ≠ 0
    · have hkk := hma hmore
      have rel : ∀ (c : Value) (wr' : World), wr'.ownsRow w.heap.size 3 1 c (k + 1) (lows (k + 1) (a + b)) → Below w.heap.size w wr' → ∃ k' : Nat, Value.int .i64 ((k : Int) + 1) = .int .i64 k' ∧ Value.int .i64 (carryN a b (k + 1)) = .int .i64 (carryN a b k') ∧ k' ≤ nd (a + b) ∧ wr'.ownsRow w.heap.size 3 1 c k' (lows k' (a + b)) ∧ Below w.heap.size w wr' :=
        fun c wr' h1 h2 => ⟨k + 1, rfl, rfl, hkk, h1, h2⟩
      replace rel := Lib.hid rel
      replace hls := Lib.hid hls
      clear hma hend hA hB
      generalize carryN a b (k + 1) = cy1 at *
      generalize carryN a b k = cy at *
      generalize dg (a + b) k = z at *
      have hsum : (dg a k = 0 → dg b k = 0 → ((cy : Int) % 16777216 = z ∧ (cy : Int) / 16777216 = cy1)) ∧ ((cy + dg a k : Int) + dg b k) % 16777216 = z ∧ ((cy + dg a k : Int) + dg b k) / 16777216 = cy1 := by
        rw [BB_eq] at hs hd; omega
      generalize dg a k = x at *
      generalize dg b k = y at *
      by_cases h1 : k < nd a
      · obtain ⟨ad, rfl, hca⟩ := hca h1
        by_cases h2 : k < nd b
        · obtain ⟨ad2, rfl, hcb⟩ := hcb h2
          clear hxa hxb
          obtain ⟨_, hs1, hs2⟩ := hsum
          rw [BB_eq] at hda hdb
          clear hs hd hmore
          go_wp2_with (at_builtin; refine wpList_append_own _ rfl _ _ 117 rfl w.heap.size 3 i0 (.int .i64 0) 1 8 Tryd.underlying117 hi hz0 hz1 hz2 rfl (by decide) _ _ _ rfl (hown.alloc _) ⟨wr.heap.size, 0, none⟩ 1 1 [.int .i64 z] rfl rfl (new_cell1 _ _ _) (one_int _) (by unfold maxLen; omega) (by omega) (by have := hB0.size; simp; omega) ?_)
          intro v' w1 hown' hgrow _
          have hB1 := below_append hB0 hown hgrow
          clear hown hB0 hgrow
          rw [← hls.out] at hown'
          go_wp2
          go_roundw
          case rel => (try rw [hs2]); exact rel.out _ _ hown' hB1
          case measure => simp [intOf]; omega
        · obtain rfl := hxb (by omega)
          simp only [Int.natCast_zero, Int.add_zero, Int.cast_ofNat_Int] at hsum
          clear hxa hcb
          obtain ⟨_, hs1, hs2⟩ := hsum
          rw [BB_eq] at hda hdb
          clear hs hd hmore
          go_wp2_with (at_builtin; refine wpList_append_own _ rfl _ _ 117 rfl w.heap.size 3 i0 (.int .i64 0) 1 8 Tryd.underlying117 hi hz0 hz1 hz2 rfl (by decide) _ _ _ rfl (hown.alloc _) ⟨wr.heap.size, 0, none⟩ 1 1 [.int .i64 z] rfl rfl (new_cell1 _ _ _) (one_int _) (by unfold maxLen; omega) (by omega) (by have := hB0.size; simp; omega) ?_)
          intro v' w1 hown' hgrow _
          have hB1 := below_append hB0 hown hgrow
          clear hown hB0 hgrow
          rw [← hls.out] at hown'
          go_wp2
          go_roundw
          case rel => (try rw [hs2]); exact rel.out _ _ hown' hB1
          case measure => simp [intOf]; omega
      · obtain rfl := hxa (by omega)
        by_cases h2 : k < nd b
        · obtain ⟨ad2, rfl, hcb⟩ := hcb h2
          simp only [Int.natCast_zero, Int.add_zero, Int.cast_ofNat_Int] at hsum
          clear hxb hca
          obtain ⟨_, hs1, hs2⟩ := hsum
          rw [BB_eq] at hda hdb
          clear hs hd hmore
          go_wp2_with (at_builtin; refine wpList_append_own _ rfl _ _ 117 rfl w.heap.size 3 i0 (.int .i64 0) 1 8 Tryd.underlying117 hi hz0 hz1 hz2 rfl (by decide) _ _ _ rfl (hown.alloc _) ⟨wr.heap.size, 0, none⟩ 1 1 [.int .i64 z] rfl rfl (new_cell1 _ _ _) (one_int _) (by unfold maxLen; omega) (by omega) (by have := hB0.size; simp; omega) ?_)
          intro v' w1 hown' hgrow _
          have hB1 := below_append hB0 hown hgrow
          clear hown hB0 hgrow
          rw [← hls.out] at hown'
          go_wp2
          go_roundw
          case rel => (try rw [hs2]); exact rel.out _ _ hown' hB1
          case measure => simp [intOf]; omega
        · obtain rfl := hxb (by omega)
          simp only [Int.natCast_zero, Int.add_zero, Int.cast_ofNat_Int] at hsum
          clear hca hcb
          have hcy : (0 : Int) < cy := by omega
          obtain ⟨_, hs1, hs2⟩ := hsum
          rw [BB_eq] at hda hdb
          clear hs hd hmore
          go_wp2_with (at_builtin; refine wpList_append_own _ rfl _ _ 117 rfl w.heap.size 3 i0 (.int .i64 0) 1 8 Tryd.underlying117 hi hz0 hz1 hz2 rfl (by decide) _ _ _ rfl (hown.alloc _) ⟨wr.heap.size, 0, none⟩ 1 1 [.int .i64 z] rfl rfl (new_cell1 _ _ _) (one_int _) (by unfold maxLen; omega) (by omega) (by have := hB0.size; simp; omega) ?_)
          intro v' w1 hown' hgrow _
          have hB1 := below_append hB0 hown hgrow
          clear hown hB0 hgrow
          rw [← hls.out] at hown'
          go_wp2
          go_roundw
          case rel => (try rw [hs2]); exact rel.out _ _ hown' hB1
          case measure => simp [intOf]; omega
    · have h3 : carryN a b k = 0 := by omega
      have hk2 := hend (by omega) (by omega) h3
      obtain rfl : k = nd (a + b) := by omega
      rw [h3]
      clear hma hend hs hc1 h3 hls hca hcb hxa hxb hd hda hdb
      go_wp2
      go_ret
      obtain ⟨C, cc, rfl, h1, h2, _⟩ := own_cap hown
      exact ⟨C, cc, rfl, h1, h2, IsL.of_own hown, hB0⟩
end Go.Proofs.YtldmbneckcjonaaDoor
namespace Go.Proofs.YtldmbneckcjonaaDoor
open Go.RowKit
theorem toNat_lt {a b : Nat} (h : a < b) : (intOf (.int .i64 (a : Int))).toNat < (intOf (.int .i64 (b : Int))).toNat := by
  show ((a : Int)).toNat < ((b : Int)).toNat
  rw [Int.toNat_natCast, Int.toNat_natCast]; exact h
theorem val_int {k : IntKind} {a b : Int} (h : a = b) : Value.int k a = Value.int k b := by rw [h]
theorem dg_pred {n j : Nat} (h : nd n < j) : dg n (j - 1) = 0 := dg_high (by omega)
set_option maxRecDepth 100000 in
set_option maxHeartbeats 400000 in
theorem trim_any (A : Option Addr) (k ca n : Nat) (w : World) (hA : IsL w A k n) (hn : nd n ≤ k) (hc : k ≤ ca) (hk : k ≤ 90000) :
    Calls Tryd.prog 113 #[.slice A k ca] w fun e w' => e = .returned (.slice A (nd n) ca) ∧ w = w' := by
  go_enter Tryd.func113, Tryd.ntmps113
  go_wp2
  go_loop [3] (fun i => ∃ j : Nat, i = .int .i64 j ∧ nd n ≤ j ∧ j ≤ k) (fun i => (intOf i).toNat)
  case atStart => exact ⟨k, rfl, hn, Nat.le_refl _⟩
  case round =>
    obtain ⟨j, rfl, h1, h2⟩ := hrel
    by_cases h0 : nd n < j
    · obtain ⟨i, rfl⟩ : ∃ i, j = i + 1 := ⟨j - 1, by omega⟩
      obtain ⟨ad, rfl, hcell⟩ := hA.at_ (i := i) (by omega)
      have hz := dg_pred h0
      rw [Nat.add_sub_cancel] at hz
      rw [hz] at hcell
      clear hA hz
      go_wp2
      go_round
      case rel => exact ⟨i, rfl, by omega, by omega⟩
      case measure => simp [intOf]
    · obtain rfl : j = nd n := by omega
      by_cases hp : 0 < nd n
      · obtain ⟨i, hi⟩ : ∃ i, nd n = i + 1 := ⟨nd n - 1, by omega⟩
        obtain ⟨ad, rfl, hcell⟩ := hA.at_ (i := i) (by omega)
        have hz := (dg_top hi).1
        replace hz : ((dg n i : Int) == 0) = false := by rw [beq_eq_false_iff_ne]; omega
        clear hA
        rw [hi] at h1 h2 h0 ⊢
        go_wp2
        go_ret
        exact ⟨rfl, rfl⟩
      · have h00 : nd n = 0 := by omega
        rw [h00]
        go_wp2
        go_ret
        exact ⟨rfl, rfl⟩
set_option maxRecDepth 100000 in
set_option maxHeartbeats 400000 in
theorem rminus_any (A B : Option Addr) (ca cb a b : Nat) (w : World) (hA : IsL w A (nd a) a) (hB : IsL w B (nd b) b) (ma : Mod a) (hba : b ≤ a) :
    Calls Tryd.prog 103 #[.slice A (nd a) ca, .slice B (nd b) cb] w (NatOut (a - b) w) := by
  have la := ma.nd
  have lba := nd_mono hba
  have lab : nd (a - b) ≤ nd a := nd_mono (Nat.sub_le _ _)
  obtain ⟨i0, hi, hz0, hz1, hz2⟩ := info_parts info3
  go_enter Tryd.func103, Tryd.ntmps103
  go_wp2
  go_loopw [5, 6, 7] (fun c cy i wr => ∃ k : Nat, i = .int .i64 k ∧ cy = .int .i64 (lentN a b k) ∧ k ≤ nd a ∧ wr.ownsRow w.heap.size 3 1 c k (lows k (a - b)) ∧ Below w.heap.size w wr) (fun _ _ i _ => nd a - (intOf i).toNat)
  case atStart =>
    exact ⟨0, rfl, by rw [lent_zero]; rfl, Nat.zero_le _, ⟨by rw [lows_zero]; rfl, .inl ⟨rfl, rfl⟩⟩, Below.refl _ _⟩
  case round =>
    obtain ⟨k, rfl, rfl, hk, hown, hB0⟩ := hrel
    by_cases h1 : k < nd a
    · have hs := lent_step hba k
      have hl0 := lent_le a b k
      have hl1 := lent_le a b (k + 1)
      have hd := dg_lt (a - b) k
      have hda := dg_lt a k
      have hdb := dg_lt b k
      have hxb := fun h => dg_high (n := b) (i := k) h
      have hls := lows_succ k (a - b)
      have hcb : k < nd b → ∃ ad, B = some ad ∧ wr.cell? (ad.add k) = some (.int .i64 (dg b k)) := fun h => (hB.below (Nat.le_refl _) hB0).at_ h
      obtain ⟨ad, rfl, hca⟩ := (hA.below (Nat.le_refl _) hB0).at_ h1
      have rel : ∀ (c : Value) (wr' : World), wr'.ownsRow w.heap.size 3 1 c (k + 1) (lows (k + 1) (a - b)) → Below w.heap.size w wr' → ∃ k' : Nat, Value.int .i64 ((k : Int) + 1) = .int .i64 k' ∧ Value.int .i64 (lentN a b (k + 1)) = .int .i64 (lentN a b k') ∧ k' ≤ nd a ∧ wr'.ownsRow w.heap.size 3 1 c k' (lows k' (a - b)) ∧ Below w.heap.size w wr' :=
        fun c wr' h2 h3 => ⟨k + 1, rfl, rfl, h1, h2, h3⟩
      replace rel := Lib.hid rel
      replace hls := Lib.hid hls
      clear hA hB
      generalize lentN a b (k + 1) = l1 at *
      generalize lentN a b k = l0 at *
      generalize dg (a - b) k = z at *
      generalize dg a k = x at *
      rw [BB_eq] at hs hd hda hdb
      by_cases h2 : k < nd b
      · obtain ⟨ad2, rfl, hcb⟩ := hcb h2
        generalize dg b k = y at *
        clear hxb
        rcases (show l1 = 0 ∨ l1 = 1 by omega) with rfl | rfl
        · have hv : (x : Int) - l0 - y = z := by omega
          clear hs
          go_wp2_with (at_builtin; refine wpList_append_own _ rfl _ _ 117 rfl w.heap.size 3 i0 (.int .i64 0) 1 8 Tryd.underlying117 hi hz0 hz1 hz2 rfl (by decide) _ _ _ rfl (hown.alloc _) ⟨wr.heap.size, 0, none⟩ 1 1 [.int .i64 z] rfl rfl (new_cell1 _ _ _) (one_int _) (by unfold maxLen; omega) (by omega) (by have := hB0.size; simp; omega) ?_)
          intro v' w1 hown' hgrow _
          have hB1 := below_append hB0 hown hgrow
          clear hown hB0 hgrow
          rw [← hls.out] at hown'
          go_wp2
          go_roundw
          case rel => exact rel.out _ _ hown' hB1
          case measure => simp [intOf]; omega
        · have hv : (x : Int) - l0 - y + 16777216 = z := by omega
          have hneg : (x : Int) - l0 - y < 0 := by omega
          clear hs
          go_wp2_with (at_builtin; refine wpList_append_own _ rfl _ _ 117 rfl w.heap.size 3 i0 (.int .i64 0) 1 8 Tryd.underlying117 hi hz0 hz1 hz2 rfl (by decide) _ _ _ rfl (hown.alloc _) ⟨wr.heap.size, 0, none⟩ 1 1 [.int .i64 z] rfl rfl (new_cell1 _ _ _) (one_int _) (by unfold maxLen; omega) (by omega) (by have := hB0.size; simp; omega) ?_)
          intro v' w1 hown' hgrow _
          have hB1 := below_append hB0 hown hgrow
          clear hown hB0 hgrow
          rw [← hls.out] at hown'
          go_wp2
          go_roundw
          case rel => exact rel.out _ _ hown' hB1
          case measure => simp [intOf]; omega
      · have hy := hxb (by omega)
        rw [hy] at hs
        clear hxb hcb hy
        rcases (show l1 = 0 ∨ l1 = 1 by omega) with rfl | rfl
        · have hv : (x : Int) - l0 = z := by omega
          clear hs hdb
          go_wp2_with (at_builtin; refine wpList_append_own _ rfl _ _ 117 rfl w.heap.size 3 i0 (.int .i64 0) 1 8 Tryd.underlying117 hi hz0 hz1 hz2 rfl (by decide) _ _ _ rfl (hown.alloc _) ⟨wr.heap.size, 0, none⟩ 1 1 [.int .i64 z] rfl rfl (new_cell1 _ _ _) (one_int _) (by unfold maxLen; omega) (by omega) (by have := hB0.size; simp; omega) ?_)
          intro v' w1 hown' hgrow _
          have hB1 := below_append hB0 hown hgrow
          clear hown hB0 hgrow
          rw [← hls.out] at hown'
          go_wp2
          go_roundw
          case rel => exact rel.out _ _ hown' hB1
          case measure => simp [intOf]; omega
        · have hv : (x : Int) - l0 + 16777216 = z := by omega
          have hneg : (x : Int) - l0 < 0 := by omega
          clear hs hdb
          go_wp2_with (at_builtin; refine wpList_append_own _ rfl _ _ 117 rfl w.heap.size 3 i0 (.int .i64 0) 1 8 Tryd.underlying117 hi hz0 hz1 hz2 rfl (by decide) _ _ _ rfl (hown.alloc _) ⟨wr.heap.size, 0, none⟩ 1 1 [.int .i64 z] rfl rfl (new_cell1 _ _ _) (one_int _) (by unfold maxLen; omega) (by omega) (by have := hB0.size; simp; omega) ?_)
          intro v' w1 hown' hgrow _
          have hB1 := below_append hB0 hown hgrow
          clear hown hB0 hgrow
          rw [← hls.out] at hown'
          go_wp2
          go_roundw
          case rel => exact rel.out _ _ hown' hB1
          case measure => simp [intOf]; omega
    · obtain rfl : k = nd a := by omega
      obtain ⟨C, cc, rfl, h2, h3, _⟩ := own_cap hown
      have hC := IsL.of_own hown
      clear hown hA hB
      generalize a - b = d at *
      go_wp2_with (go_at_call 113; refine (trim_any _ _ _ d _ hC lab h2 (by omega)).mono ?_; rintro e w' ⟨rfl, rfl⟩)
      go_ret
      exact ⟨C, cc, rfl, by omega, h3, hC.low lab, hB0⟩
theorem dg_zero_of (N k : Nat) : N / BB ^ k % BB = dg N k := by unfold dg; rfl
/-- N is an int. -/
def I63 (n : Nat) : Prop := n < 9223372036854775808
theorem I63.nd {n : Nat} (h : I63 n) : nd n ≤ 3 := by
  have h1 : bl n ≤ 63 := bl_le.2 h
  have := nd_bl n; omega
set_option maxRecDepth 100000 in
set_option maxHeartbeats 400000 in
theorem rnat_any (N : Nat) (w : World) (mN : I63 N) :
    Calls Tryd.prog 94 #[.int .i64 N] w (NatOut N w) := by
  have la := mN.nd
  obtain ⟨i0, hi, hz0, hz1, hz2⟩ := info_parts info3
  go_enter Tryd.func94, Tryd.ntmps94
  go_wp2
  go_loopw [0, 3] (fun n c wr => ∃ k : Nat, n = .int .i64 ((N / BB ^ k : Nat) : Int) ∧ k ≤ nd N ∧ wr.ownsRow w.heap.size 3 1 c k (lows k N) ∧ Below w.heap.size w wr) (fun n _ _ => (intOf n).toNat)
  case atStart =>
    exact ⟨0, by rw [Nat.pow_zero, Nat.div_one], Nat.zero_le _, ⟨by rw [lows_zero]; rfl, .inl ⟨rfl, rfl⟩⟩, Below.refl _ _⟩
  case round =>
    obtain ⟨k, rfl, hk, hown, hB0⟩ := hrel
    have hls := Lib.hid (lows_succ k N)
    have e1 := dg_zero_of N k
    have e2 : N / BB ^ k / BB = N / BB ^ (k + 1) := by rw [Nat.pow_succ, Nat.div_div_eq_div_mul]
    by_cases h1 : k < nd N
    · have h0 : 0 < N / BB ^ k := Nat.div_pos (lt_nd.1 h1) (powBB_pos k)
      have rel : ∀ (c : Value) (wr' : World), wr'.ownsRow w.heap.size 3 1 c (k + 1) (lows (k + 1) N) → Below w.heap.size w wr' → ∃ k' : Nat, Value.int .i64 ((N / BB ^ (k + 1) : Nat) : Int) = .int .i64 ((N / BB ^ k' : Nat) : Int) ∧ k' ≤ nd N ∧ wr'.ownsRow w.heap.size 3 1 c k' (lows k' N) ∧ Below w.heap.size w wr' :=
        fun c wr' h2 h3 => ⟨k + 1, rfl, h1, h2, h3⟩
      replace rel := Lib.hid rel
      have hmN := Lib.hid (Nat.div_le_self N (BB ^ (k + 1)))
      generalize N / BB ^ (k + 1) = m1 at *
      generalize N / BB ^ k = m at *
      generalize dg N k = z at *
      rw [BB_eq] at e1 e2
      have q1 : (m : Int) % 16777216 = z := by omega
      have q2 : (m : Int) / 16777216 = m1 := by omega
      have hlt : m1 < m := by omega
      have hw : (m1 : Int) ≤ 9223372036854775807 := by have := hmN.out; unfold I63 at mN; omega
      clear e1 e2 hmN
      go_wp2_with (at_builtin; refine wpList_append_own _ rfl _ _ 117 rfl w.heap.size 3 i0 (.int .i64 0) 1 8 Tryd.underlying117 hi hz0 hz1 hz2 rfl (by decide) _ _ _ rfl (hown.alloc _) ⟨wr.heap.size, 0, none⟩ 1 1 [.int .i64 z] rfl rfl (new_cell1 _ _ _) (one_int _) (by unfold maxLen; omega) (by omega) (by have := hB0.size; simp; omega) ?_)
      intro v' w1 hown' hgrow _
      have hB1 := below_append hB0 hown hgrow
      clear hown hB0 hgrow
      rw [← hls.out] at hown'
      go_wp2
      go_roundw
      case rel => exact rel.out _ _ hown' hB1
      case measure => exact toNat_lt hlt
    · obtain rfl : k = nd N := by omega
      have hz : N / BB ^ nd N = 0 := Nat.div_eq_of_lt (lt_pow_nd N)
      rw [hz]
      clear e1 e2 hls hz
      go_wp2
      go_ret
      obtain ⟨C, cc, rfl, h2, h3, _⟩ := own_cap hown
      exact ⟨C, cc, rfl, h2, h3, IsL.of_own hown, hB0⟩
def cmpI (a b : Nat) : Int := if a < b then -1 else if a = b then 0 else 1
set_option maxRecDepth 100000 in
set_option maxHeartbeats 400000 in
theorem rsize_any (A : Option Addr) (ca a : Nat) (w : World) (hA : IsL w A (nd a) a) (ma : Mod a) :
    Calls Tryd.prog 104 #[.slice A (nd a) ca] w fun e w' => e = .returned (.int .i64 (bl a)) ∧ w = w' := by
  have la := ma.nd
  by_cases h0 : nd a = 0
  · have : a = 0 := nd_eq_zero.1 h0
    subst this
    rw [bl_zero, nd_zero]
    clear h0 la hA ma
    go_enter Tryd.func104, Tryd.ntmps104
    go_wp2
    go_ret
    exact ⟨rfl, rfl⟩
  · obtain ⟨k, hk⟩ : ∃ k, nd a = k + 1 := ⟨nd a - 1, by omega⟩
    have hb := bl_dg hk
    have hd := dg_lt a k
    obtain ⟨ad, rfl, hca⟩ := hA.at_ (i := k) (by omega)
    rw [hb]
    rw [hk] at la ⊢
    clear hA ma hb hk h0
    generalize dg a k = x at *
    have hx24 : bl x ≤ 24 := bl_le.2 (by rw [BB_eq] at hd; exact hd)
    clear hd
    go_enter Tryd.func104, Tryd.ntmps104
    go_wp2
    go_loop [3, 4] (fun n t => ∃ (j : Nat) (y : Nat), n = .int .i64 (((24 * k + j : Nat)) : Int) ∧ t = .int .i64 y ∧ bl y + j = bl x) (fun _ t => (intOf t).toNat)
    case atStart => exact ⟨0, x, by go_num, rfl, rfl⟩
    case round =>
      obtain ⟨j, y, rfl, rfl, hj⟩ := hrel
      by_cases hy : y = 0
      · subst hy
        rw [bl_zero] at hj
        obtain rfl : j = bl x := by omega
        go_wp2
        go_ret
        exact ⟨rfl, rfl⟩
      · have hh := bl_half hy
        have hy0 : (0 : Int) < y := by omega
        have hw : (y : Int) ≤ 16777216 := by
          have : y < 2 ^ 24 := bl_le.1 (by omega)
          omega
        clear hy
        replace hh := Lib.hid hh
        replace hj := Lib.hid hj
        have hj24 : j ≤ 24 := by have := hj.out; omega
        go_wp2
        go_round
        case rel => exact ⟨j + 1, y / 2, val_int (by omega), val_int (by omega), by have := hj.out; have := hh.out; omega⟩
        case measure => exact toNat_lt (a := y / 2) (by omega)
end Go.Proofs.YtldmbneckcjonaaDoor
namespace Go.Proofs.YtldmbneckcjonaaDoor
open Go.RowKit
theorem bdrew {B : Nat} {a w : World} (h : Below B a w) (n : Nat) : Below B a (w.drewN n) := ⟨h.os, h.tape, h.output, h.size, h.block⟩
theorem div_lt_pow {a k : Nat} (h : nd a ≤ k) : a / BB ^ k = 0 := Nat.div_eq_of_lt (nd_le.1 h)
theorem cmpI_lt {a b : Nat} (h : a < b) : -1 = cmpI a b := by unfold cmpI; rw [if_pos h]
theorem cmpI_eq {a b : Nat} (h : a = b) : 0 = cmpI a b := by unfold cmpI; rw [if_neg (by omega), if_pos h]
theorem cmpI_gt {a b : Nat} (h : b < a) : 1 = cmpI a b := by unfold cmpI; rw [if_neg (by omega), if_neg (by omega)]
set_option maxRecDepth 100000 in
set_option maxHeartbeats 400000 in
theorem rcmp_any (A B : Option Addr) (ca cb a b : Nat) (w : World) (hA : IsL w A (nd a) a) (hB : IsL w B (nd b) b) (ma : Mod a) (mb : Mod b) :
    Calls Tryd.prog 102 #[.slice A (nd a) ca, .slice B (nd b) cb] w fun e w' => e = .returned (.int .i64 (cmpI a b)) ∧ Below w.heap.size w w' := by
  have la := ma.nd
  have lb := mb.nd
  rcases Nat.lt_trichotomy (nd a) (nd b) with hn | hn | hn
  · have hlt := cmp_nd hn
    unfold cmpI
    rw [if_pos hlt]
    have hne : ((nd a : Int) != nd b) = true := by rw [bne_iff_ne]; omega
    clear hA hB hlt ma mb
    generalize nd a = na at *
    generalize nd b = nb at *
    go_enter Tryd.func102, Tryd.ntmps102
    go_wp2
    go_ret
    exact ⟨rfl, Below.refl _ _⟩
  · have he : ∀ k, nd a ≤ k → a / BB ^ k = b / BB ^ k := fun k h => by rw [div_lt_pow h, div_lt_pow (by omega)]
    have he := he _ (Nat.le_refl _)
    have hcd : ∀ k, a / BB ^ (k + 1) = b / BB ^ (k + 1) → _ := fun k => cmp_dg (a := a) (b := b) (k := k)
    have hdc : ∀ k, b / BB ^ (k + 1) = a / BB ^ (k + 1) → _ := fun k => cmp_dg (a := b) (b := a) (k := k)
    replace hcd := Lib.hid hcd
    replace hdc := Lib.hid hdc
    replace he := Lib.hid he
    rw [← hn] at hB lb ⊢
    clear hn
    generalize hna : nd a = n at *
    clear hna
    go_enter Tryd.func102, Tryd.ntmps102
    go_wp2
    go_loopw [5] (fun i wr => ∃ k : Nat, i = .int .i64 ((k : Int) - 1) ∧ k ≤ n ∧ Hid (a / BB ^ k = b / BB ^ k) ∧ Below w.heap.size w wr) (fun i _ => (intOf i + 1).toNat)
    case atStart => exact ⟨n, rfl, Nat.le_refl _, he, Below.refl _ _⟩
    case round =>
      obtain ⟨k, rfl, hk, hI, hB0⟩ := hrel
      rcases Nat.eq_zero_or_pos k with rfl | hp
      · have hab := hI.out
        rw [Nat.pow_zero, Nat.div_one, Nat.div_one] at hab
        replace hab := Lib.hid hab
        clear hcd hdc hA hB
        go_wp2
        go_ret
        exact ⟨ret_int (cmpI_eq hab.out), hB0⟩
      · obtain ⟨j, rfl⟩ : ∃ j, k = j + 1 := ⟨k - 1, by omega⟩
        obtain ⟨c1, c2⟩ := hcd.out _ hI.out
        obtain ⟨c3, c4⟩ := hdc.out _ hI.out.symm
        obtain ⟨ad, rfl, hca⟩ := (hA.below (Nat.le_refl _) hB0).at_ (i := j) (by omega)
        obtain ⟨ad2, rfl, hcb⟩ := (hB.below (Nat.le_refl _) hB0).at_ (i := j) (by omega)
        replace c2 := Lib.hid c2
        clear hA hB c4
        rw [show ((j + 1 : Nat) : Int) - 1 = j from by omega]
        have hj : (j : Int) < n := by omega
        rcases Nat.lt_trichotomy (dg a j) (dg b j) with hd | hd | hd
        · have hlt := Lib.hid (c1 hd)
          have hne : ((dg a j : Int) != dg b j) = true := by rw [bne_iff_ne]; omega
          clear c1 c2 c3 hI he hcd hdc
          generalize dg a j = x at *
          generalize dg b j = y at *
          go_wp2
          go_quiet (fail)
          go_wp2
          go_quiet (fail)
          go_wp2
          go_ret
          exact ⟨ret_int (cmpI_lt hlt.out), bdrew (bdrew hB0 _) _⟩
        · replace c2 := Lib.hid (c2.out hd)
          rw [hd] at hca
          have hne : ((dg b j : Int) != dg b j) = false := by simp
          clear c1 c3 hI he hcd hdc hd
          generalize dg b j = y at *
          go_wp2
          go_quiet (fail)
          go_wp2
          go_roundw
          case rel => exact ⟨j, rfl, by omega, c2, bdrew hB0 _⟩
          case measure => simp [intOf]
        · have hlt := Lib.hid (c3 hd)
          have hne : ((dg a j : Int) != dg b j) = true := by rw [bne_iff_ne]; omega
          clear c1 c2 c3 hI he hcd hdc
          generalize dg a j = x at *
          generalize dg b j = y at *
          go_wp2
          go_quiet (fail)
          go_wp2
          go_quiet (fail)
          go_wp2
          go_ret
          exact ⟨ret_int (cmpI_gt hlt.out), bdrew (bdrew hB0 _) _⟩
  · have hlt := cmp_nd hn
    unfold cmpI
    rw [if_neg (by omega), if_neg (by omega)]
    have hne : ((nd a : Int) != nd b) = true := by rw [bne_iff_ne]; omega
    clear hA hB hlt ma mb
    generalize nd a = na at *
    generalize nd b = nb at *
    go_enter Tryd.func102, Tryd.ntmps102
    go_wp2
    go_ret
    exact ⟨rfl, Below.refl _ _⟩
end Go.Proofs.YtldmbneckcjonaaDoor
namespace Go.Proofs.YtldmbneckcjonaaDoor
open Go.RowKit
theorem made_lows (n : Nat) : madeCells (Value.int .i64 0).cells (n * 1) = (lows n 0).toArray := by
  have h0 : lows n 0 = List.replicate n (.int .i64 0) := lows_all0 (Nat.zero_mod _)
  apply Array.ext'
  rw [h0]
  apply List.ext_getElem?
  intro i
  simp [madeCells, Value.cells, List.getElem?_replicate]
  by_cases h : i < n <;> simp [h, Nat.mod_one]
theorem make_ints (n : Nat) (hn : n ≤ 90000) (w : World) : (Instr.makeSlice 117 (.int .i64 (n : Int)) (.int .i64 (n : Int))).run Tryd.prog w = .ok (.slice (some ⟨w.heap.size, 0, none⟩) n n) (w.alloc (.cells (lows n 0).toArray 3)) := by
  obtain ⟨i0, hi, hz0, hz1, hz2⟩ := info_parts info3
  have := run_makeSlice w 117 3 i0 (.int .i64 0) Tryd.underlying117 hi hz0 .i64 .i64 n n (by omega) (Int.le_refl _) (by rw [hz1]; omega) (by rw [hz2]; omega) (by omega)
  rw [this, hz1, Int.toNat_natCast, made_lows]
theorem blk_cell {w : World} {g N C : Nat} {t : TypeId} (h : w.heap[g]? = some (.cells (lows N C).toArray t (0, 0))) {i : Nat} (hi : i < N) : w.cell? ⟨g, i, none⟩ = some (.int .i64 (dg C i)) ∧ w.frozen? ⟨g, i, none⟩ = false := by
  refine ⟨?_, by simp [World.frozen?, h]⟩
  rw [cell_of_row w g i _ t (0, 0) h]
  simp [lows_get hi]
theorem blk_set {w : World} {g N C p z : Nat} {t : TypeId} (h : w.heap[g]? = some (.cells (lows N C).toArray t (0, 0))) (hz : z < BB) (hp : p < N) : (w.setCell ⟨g, p, none⟩ (.int .i64 z)).heap[g]? = some (.cells (lows N (setD C p z)).toArray t (0, 0)) := by
  rw [← lows_setD hz hp]
  simp [World.setCell, Array.getElem?_modify, h]
theorem blk_lt {w : World} {g : Nat} {o : Obj} (h : w.heap[g]? = some o) : g < w.heap.size := by
  rcases Nat.lt_or_ge g w.heap.size with hlt | hge
  · exact hlt
  · rw [Array.getElem?_eq_none hge] at h; cases h
theorem addr0 (g i : Nat) : (⟨g, 0, none⟩ : Addr).add i = ⟨g, i, none⟩ := by
  unfold Addr.add; split
  · rename_i h; subst h; rfl
  · simp
set_option maxRecDepth 100000 in
set_option maxHeartbeats 400000 in
theorem rtimes_any (A B : Option Addr) (ca cb a b : Nat) (w : World) (hA : IsL w A (nd a) a) (hB : IsL w B (nd b) b) (ma : Mod a) (mb : Mod b) :
    Calls Tryd.prog 96 #[.slice A (nd a) ca, .slice B (nd b) cb] w (NatOut (a * b) w) := by
  have la := ma.nd
  have lb := mb.nd
  have lab := nd_mul a b
  have hmk := make_ints (nd a + nd b) (by omega)
  rw [Int.natCast_add] at hmk
  go_enter Tryd.func96, Tryd.ntmps96
  go_wp2
  clear hmk
  have hg0 : (w.alloc (.cells (lows (nd a + nd b) 0).toArray 3)).heap[w.heap.size]? = some (.cells (lows (nd a + nd b) 0).toArray 3 (0, 0)) := heap_alloc_new w _
  replace hg0 := Lib.hid hg0
  go_loopw [6] (fun i wr => ∃ k : Nat, i = .int .i64 k ∧ k ≤ nd a ∧ Hid (wr.heap[w.heap.size]? = some (.cells (lows (nd a + nd b) ((a % BB ^ k) * b)).toArray 3 (0, 0))) ∧ Below w.heap.size w wr) (fun i _ => nd a - (intOf i).toNat)
  case atStart => exact ⟨0, rfl, Nat.zero_le _, by rw [Nat.pow_zero, Nat.mod_one, Nat.zero_mul]; exact hg0, (Below.refl _ _).alloc (Nat.le_refl _) _⟩
  case round =>
    obtain ⟨k, rfl, hk, hg, hB0⟩ := hrel
    clear hg0
    by_cases h1 : k < nd a
    · obtain ⟨wo, rfl⟩ : ∃ wo : World, wo = wr := ⟨_, rfl⟩
      obtain ⟨adA, rfl, hca⟩ := hA.at_ h1
      have hblk := World.block_lt_of_cell? _ _ hca
      have hI0 := mulInv_start a b k
      go_wp2
      go_loopw [7, 8] (fun cy j wr => ∃ (c C : Nat) (q : Nat), cy = .int .i64 c ∧ j = .int .i64 q ∧ q ≤ nd b + 1 ∧ Hid (wr.heap[w.heap.size]? = some (.cells (lows (nd a + nd b) C).toArray 3 (0, 0))) ∧ Hid (MulInv a b k q C c) ∧ Below w.heap.size w wr) (fun _ j _ => nd b + 1 - (intOf j).toNat)
      case atStart => exact ⟨0, _, 0, rfl, rfl, Nat.zero_le _, hg, hI0, hB0⟩
      case round =>
        obtain ⟨c, C, q, rfl, rfl, hq, hg, hI, hB1⟩ := hrel
        clear hI0 hB0
        rename World => wr
        have hc0 := hI.out.2
        have hcell0 : wr.cell? (adA.add k) = some (.int .i64 (dg a k)) := by
          rw [hB1.cell hblk]; exact hca
        have hroom := mulInv_room hI.out
        obtain ⟨z, c', hs, hz, hI'⟩ := mulInv_step hI.out
        have hmb := mul_bound (a := a) (b := b) (k := k) (j := q)
        have hxb := fun h => dg_high (n := b) (i := q) h
        have hda := dg_lt a k
        have hdc := dg_lt C (k + q)
        by_cases hq1 : q < nd b
        · obtain ⟨hcell, hfz⟩ := blk_cell hg.out (i := k + q) (by omega)
          have hset := Lib.hid (blk_set hg.out hz (p := k + q) (by omega))
          obtain ⟨adB, rfl, hcb⟩ := (hB.below (Nat.le_refl _) hB1).at_ hq1
          replace hI' := Lib.hid hI'
          have hroom' : k + q < nd a + nd b := by omega
          clear hroom hxb hca hblk
          generalize setD C (k + q) z = C' at *
          generalize dg a k = x at *
          generalize dg b q = y at *
          generalize dg C (k + q) = u at *
          have hxy : (x : Int) * y = ((x * y : Nat) : Int) := (Int.natCast_mul x y).symm
          generalize x * y = m at *
          rw [BB_eq] at hs hz hda hdc hc0
          have q1 : ((u : Int) + c + m) % 16777216 = z := by omega
          have q2 : ((u : Int) + c + m) / 16777216 = c' := by omega
          have w1 : IntKind.i64.wrap ((x : Int) * y) = m := by rw [hxy, IntKind.wrap_i64]; omega
          have w2 : IntKind.i64.wrap ((u : Int) + c + m) = u + c + m := by rw [IntKind.wrap_i64]; omega
          clear hs
          go_wp2
          go_quiet (fail)
          go_wp2
          go_roundw
          case rel => exact ⟨c', C', q + 1, val_int q2, rfl, by omega, hset, hI', (bdrew hB1 _).setCell (Nat.le_refl _) _⟩
          case measure => simp [intOf]; omega
        · have hy := hxb (by omega)
          rcases Nat.eq_zero_or_pos c with rfl | hc
          · have hend := mulInv_end hI.out (by omega)
            subst hend
            clear hI hs hI' hxb hy hdc hmb hda hca hcell0 hroom hz
            go_wp2
            go_roundw
            case rel => exact ⟨k + 1, rfl, h1, hg, hB1⟩
            case measure => simp [intOf]; omega
          · have hq2 : q = nd b := by have := hroom (by omega); omega
            rw [hy, Nat.mul_zero, Nat.add_zero] at hs
            obtain ⟨hcell, hfz⟩ := blk_cell hg.out (i := k + q) (by omega)
            have hset := Lib.hid (blk_set hg.out hz (p := k + q) (by omega))
            replace hI' := Lib.hid hI'
            have hroom' : k + q < nd a + nd b := by omega
            clear hroom hxb hca hblk hmb hda hy
            generalize setD C (k + q) z = C' at *
            generalize dg C (k + q) = u at *
            rw [BB_eq] at hs hz hdc hc0
            have q1 : ((u : Int) + c) % 16777216 = z := by omega
            have q2 : ((u : Int) + c) / 16777216 = c' := by omega
            clear hs
            subst hq2
            go_wp2
            go_roundw
            case rel => exact ⟨c', C', nd b + 1, val_int q2, rfl, by omega, hset, hI', hB1.setCell (Nat.le_refl _) _⟩
            case measure => simp [intOf]
    · obtain rfl : k = nd a := by omega
      rw [Nat.mod_eq_of_lt (lt_pow_nd a)] at hg
      have hC : IsL wr (some ⟨w.heap.size, 0, none⟩) (nd a + nd b) (a * b) := fun _ => ⟨_, rfl, fun i hi => by rw [addr0]; exact (blk_cell hg.out hi).1⟩
      clear hA hB hg
      generalize a * b = d at *
      go_wp2_with (go_at_call 113; refine (trim_any _ _ _ d _ hC lab (Nat.le_refl _) (by omega)).mono ?_; rintro e w' ⟨rfl, rfl⟩)
      go_ret
      exact ⟨_, _, rfl, lab, ⟨by unfold maxLen; omega, Fr.new (Nat.le_refl _)⟩, hC.low lab, hB0⟩
end Go.Proofs.YtldmbneckcjonaaDoor
namespace Go.Proofs.YtldmbneckcjonaaDoor
open Go.RowKit
theorem nd_shift {n j : Nat} (h : n ≠ 0) : nd (BB ^ j * n) = j + nd n := by
  have h1 : nd (BB ^ j * n) ≤ j + nd n := by
    rw [nd_le, Nat.pow_add]; exact Nat.mul_lt_mul_of_pos_left (lt_pow_nd n) (powBB_pos j)
  obtain ⟨k, hk⟩ : ∃ k, nd n = k + 1 := ⟨nd n - 1, by have := nd_pos.2 h; omega⟩
  have h2 : j + k < nd (BB ^ j * n) := by
    rw [lt_nd, Nat.pow_add]; exact Nat.mul_le_mul_left _ (lt_nd.1 (by omega))
  omega
theorem up_split (a k : Nat) : a * 2 ^ k = BB ^ (k / 24) * (a * 2 ^ (k % 24)) := by
  rw [← pow24, Nat.mul_left_comm, ← Nat.pow_add, show 24 * (k / 24) + k % 24 = k from by omega]
theorem below_grown {w w' : World} (h : Below w.heap.size w w') : w.grownBy w' none := ⟨h.os, h.tape, h.output, h.size, fun k hk _ => h.block k hk⟩
theorem own_keep {w w' : World} {base size m : Nat} {e : TypeId} {v : Value} {xs : List Value} (h : w.ownsRow base e size v m xs) (hb : Below w.heap.size w w') : w'.ownsRow base e size v m xs := by
  refine h.kept (below_grown hb) ?_
  cases hv : v.ownBlock with
  | none => exact .inl rfl
  | some g => exact .inr (by simp)
theorem IsL.news {w : World} {ad : Addr} {k n : Nat} (h : IsL w (some ad) k n) : ∀ j u, (lows k n)[j]? = some u → w.cell? (ad.add j) = some u := by
  intro j u hu
  have hj : j < k := by
    rcases Nat.lt_or_ge j k with h1 | h1
    · exact h1
    · rw [List.getElem?_eq_none (by rw [lows_length]; exact h1)] at hu; cases hu
  obtain ⟨ad', e, hc⟩ := h.at_ hj
  injection e with e
  subst e
  rw [lows_get hj] at hu
  rw [hc]; exact hu
theorem lows_one (k n : Nat) : ∀ u ∈ lows k n, u.oneCell' = true := by
  intro u hu
  unfold lows at hu
  obtain ⟨i, _, rfl⟩ := List.mem_map.1 hu
  rfl
set_option maxRecDepth 100000 in
set_option maxHeartbeats 400000 in
theorem rup_nil (A : Option Addr) (ca a : Nat) (k : Int) (w : World) (h0 : nd a = 0) :
    Calls Tryd.prog 97 #[.slice A (nd a) ca, .int .i64 k] w (NatOut 0 w) := by
  rw [h0]
  go_enter Tryd.func97, Tryd.ntmps97
  go_wp2
  go_ret
  exact ⟨none, 0, by rw [nd_zero]; rfl, Nat.le_of_eq nd_zero, ⟨Nat.zero_le _, Fr.nil _⟩, by rw [nd_zero]; exact IsL.none_, Below.refl _ _⟩
set_option maxRecDepth 100000 in
set_option maxHeartbeats 400000 in
theorem rup_pos (A : Option Addr) (ca a k : Nat) (w : World) (hA : IsL w A (nd a) a) (h0 : a ≠ 0) (mk : Mod (a * 2 ^ k)) (mm : Mod (a * 2 ^ (k % 24))) (ma : Mod a) :
    Calls Tryd.prog 97 #[.slice A (nd a) ca, .int .i64 k] w (NatOut (a * 2 ^ k) w) := by
  have la := ma.nd
  have hp := nd_pos.2 h0
  have hk24 : k / 24 ≤ 90000 := by
    have h1 := mk.nd
    have h2 : nd (a * 2 ^ k) = k / 24 + nd (a * 2 ^ (k % 24)) := by rw [up_split, nd_shift (by have := Nat.two_pow_pos (k % 24); have := Nat.mul_pos (Nat.pos_of_ne_zero h0) this; omega)]
    omega
  have hmk := make_ints (k / 24) hk24
  rw [show ((k / 24 : Nat) : Int) = (k : Int) / 24 from by omega] at hmk
  have hm0 : a * 2 ^ (k % 24) ≠ 0 := by have := Nat.two_pow_pos (k % 24); have := Nat.mul_pos (Nat.pos_of_ne_zero h0) this; omega
  have hval := nd_shift (j := k / 24) hm0
  have hlow := lows_shift (k / 24) (nd (a * 2 ^ (k % 24))) (a * 2 ^ (k % 24))
  have hlow0 : lows (k / 24) 0 = List.replicate (k / 24) (.int .i64 0) := lows_all0 (Nat.zero_mod _)
  rw [← hlow0] at hlow
  have hup := up_split a k
  have hp2 : (2 : Nat) ^ (k % 24) < 2 ^ 24 := Nat.pow_lt_pow_right (by decide) (by omega)
  have hpI : I63 (2 ^ (k % 24)) := by unfold I63; omega
  have hpM : Mod (2 ^ (k % 24)) := by unfold Mod; have := bl_le.2 hp2; omega
  have hpw : wrap64 ((2 : Int) ^ (k % 24)) = ((2 ^ (k % 24) : Nat) : Int) := by
    have e : (2 : Int) ^ (k % 24) = ((2 ^ (k % 24) : Nat) : Int) := (Int.natCast_pow 2 _).symm
    rw [e]; unfold wrap64
    generalize 2 ^ (k % 24) = p at *
    omega
  have hmN := mm.nd
  have hmkN := mk.nd
  have hm1 := nd_pos.2 hm0
  rw [hup] at hmkN ⊢
  rw [hval] at hmkN
  replace hval := Lib.hid hval
  replace hlow := Lib.hid hlow
  obtain ⟨i0, hi, hz0, hz1, hz2⟩ := info_parts info3
  clear hup hlow0 mk hm0 h0 hp2
  generalize hP0 : 2 ^ (k % 24) = p at *
  replace hP0 := Lib.hid hP0
  have hdiv := Nat.div_le_self k 24
  go_enter Tryd.func97, Tryd.ntmps97
  go_wp2_with fail
  refine (rnat_any p _ hpI).mono ?_
  rintro e w1 ⟨P, pc, rfl, h1, h2, hP, hb1⟩
  have hA1 := ((hA.below (Nat.le_refl _) ((Below.refl _ w).alloc (Nat.le_refl _) (.cells (lows (k / 24) 0).toArray 3)))).below (Nat.le_refl _) hb1
  have own1 := own_keep (World.ownsRow_lit (base := w.heap.size) (e := 3) (size := 1) w (lows (k / 24) 0).toArray (k / 24) (Nat.le_refl _) (by unfold maxLen; omega) (by rw [List.size_toArray, lows_length, Nat.mul_one])) hb1
  have hB1 := ((Below.refl w.heap.size w).alloc (Nat.le_refl _) (.cells (lows (k / 24) 0).toArray 3)).trans (hb1.mono (by simp))
  clear hb1
  go_wp2_with fail
  refine (rtimes_any _ _ _ _ a p _ hA1 hP ma hpM).mono ?_
  rintro e w2 ⟨M, mc, rfl, h3, h4, hM, hb2⟩
  have own2 := own_keep own1 hb2
  have hB2 := hB1.trans (hb2.mono hB1.size)
  clear own1 hB1 hb2 hA1 hP hA h1 h2
  obtain ⟨adM, rfl, _⟩ := hM.at_ hm1
  have hnew := Lib.hid hM.news
  have h1c := Lib.hid (lows_one (nd (a * p)) (a * p))
  clear hM hmk
  generalize a * p = m at *
  go_wp2_with (at_builtin; refine wpList_append_own _ rfl _ _ 117 rfl w.heap.size 3 i0 (.int .i64 0) 1 8 Tryd.underlying117 hi hz0 hz1 hz2 rfl (by decide) _ _ _ rfl own2 adM (nd m) mc (lows (nd m) m) rfl (by rw [lows_length, Nat.mul_one]) hnew.out h1c.out (by unfold maxLen; omega) (by omega) hB2.size ?_)
  intro v' w3 hown' hgrow _
  have hB3 := hB2.grown hgrow hB2.size fun g h => own_ge own2 g h
  clear own2 hgrow hB2
  rw [← hlow.out] at hown'
  go_wp2
  go_ret
  rw [← hval.out] at hown'
  obtain ⟨C, cc, rfl, h5, h6, _⟩ := own_cap hown'
  exact ⟨C, cc, rfl, h5, h6, IsL.of_own hown', hB3⟩
theorem Mod.le {a b : Nat} (h : Mod b) (hab : a ≤ b) : Mod a := Nat.le_trans (bl_mono hab) h
/-- a times 2^k. -/
theorem rup_any (A : Option Addr) (ca a k : Nat) (w : World) (hA : IsL w A (nd a) a) (mk : Mod (a * 2 ^ k)) :
    Calls Tryd.prog 97 #[.slice A (nd a) ca, .int .i64 k] w (NatOut (a * 2 ^ k) w) := by
  have h1 : a ≤ a * 2 ^ k := Nat.le_mul_of_pos_right a (Nat.two_pow_pos k)
  have h2 : a * 2 ^ (k % 24) ≤ a * 2 ^ k := Nat.mul_le_mul_left a (Nat.pow_le_pow_right (by decide) (Nat.mod_le _ _))
  by_cases h0 : a = 0
  · have := rup_nil A ca a k w (by rw [h0, nd_zero])
    rw [h0, Nat.zero_mul]
    rw [h0] at this
    exact this
  · exact rup_pos A ca a k w hA h0 mk (mk.le h2) (mk.le h1)
end Go.Proofs.YtldmbneckcjonaaDoor
namespace Go.Proofs.YtldmbneckcjonaaDoor
open Go.RowKit
theorem bl_mul_le (a b : Nat) : bl (a * b) ≤ bl a + bl b := by
  rw [bl_le, Nat.pow_add]
  rcases Nat.eq_zero_or_pos b with rfl | hb
  · rw [Nat.mul_zero]; exact Nat.mul_pos (Nat.two_pow_pos _) (Nat.two_pow_pos _)
  · exact Nat.mul_lt_mul_of_lt_of_le (lt_two_bl a) (Nat.le_of_lt (lt_two_bl b)) (Nat.two_pow_pos _)
theorem bl_add_le (a b : Nat) : bl (a + b) ≤ max (bl a) (bl b) + 1 := by
  rw [bl_le, Nat.pow_succ]
  have h1 := Nat.lt_of_lt_of_le (lt_two_bl a) (Nat.pow_le_pow_right (by decide) (Nat.le_max_left (bl a) (bl b)))
  have h2 := Nat.lt_of_lt_of_le (lt_two_bl b) (Nat.pow_le_pow_right (by decide) (Nat.le_max_right (bl a) (bl b)))
  omega
theorem bl_pow (k : Nat) : bl (2 ^ k) = k + 1 := bl_eq (Nat.le_refl _) (Nat.pow_lt_pow_right (by decide) (by omega))
/-- At most 100,000 bits. -/
def Sm (n : Nat) : Prop := bl n ≤ 100000
theorem Sm.mod {n : Nat} (h : Sm n) : Mod n := by unfold Sm at h; unfold Mod; omega
theorem Sm.le {a b : Nat} (h : Sm b) (hab : a ≤ b) : Sm a := Nat.le_trans (bl_mono hab) h
theorem Sm.mul {a b : Nat} (ha : Sm a) (hb : Sm b) : Mod (a * b) := by have := bl_mul_le a b; unfold Sm at ha hb; unfold Mod; omega
/-- Bit i of a number, out of its digits. -/
theorem bit_dg (a i : Nat) : dg a (i / 24) / 2 ^ (i % 24) % 2 = a / 2 ^ i % 2 := by
  have h1 : a / 2 ^ i = a / BB ^ (i / 24) / 2 ^ (i % 24) := by
    rw [Nat.div_div_eq_div_mul, ← pow24, ← Nat.pow_add]; congr 2; omega
  rw [h1]
  unfold dg
  obtain ⟨d, hd⟩ : ∃ d, 24 = i % 24 + (d + 1) := ⟨23 - i % 24, by omega⟩
  have h2 : BB = 2 ^ (i % 24) * (2 * 2 ^ d) := by rw [← two24]; conv => lhs; rw [hd]
                                                  rw [Nat.pow_add, Nat.pow_succ, Nat.mul_comm (2 ^ d)]
  generalize a / BB ^ (i / 24) = x
  rw [h2, Nat.mod_mul_right_div_self, Nat.mod_mul_right_mod]
theorem bits_and_i64 (a b : Int) : bits .and .i64 a b = IntKind.i64.wrap ((BitVec.ofInt 64 a &&& BitVec.ofInt 64 b).toNat : Int) := rfl
theorem iand_1 (a : Int) : bits .and .i64 a 1 = a % 2 := by
  rw [bits_and_i64, BitVec.toNat_and]
  have h2 : (BitVec.ofInt 64 (1 : Int)).toNat = 2 ^ 1 - 1 := by decide
  rw [h2, Nat.and_two_pow_sub_one_eq_mod, BitVec.toNat_ofInt, IntKind.wrap_i64]
  omega
theorem ibit (a i : Nat) : bits .and .i64 ((dg a (i / 24) : Int) / 2 ^ (i % 24)) 1 = ((a / 2 ^ i % 2 : Nat) : Int) := by
  rw [iand_1, ← bit_dg, Int.natCast_emod, Int.natCast_ediv, Int.natCast_pow]; rfl
theorem rup1_any (A : Option Addr) (ca a : Nat) (w : World) (hA : IsL w A (nd a) a) (mk : Mod (a * 2)) :
    Calls Tryd.prog 97 #[.slice A (nd a) ca, .int .i64 1] w (NatOut (a * 2) w) := by
  have := rup_any A ca a 1 w hA (by rw [Nat.pow_one]; exact mk)
  rw [Nat.pow_one] at this
  exact this
theorem rnat1_any (w : World) : Calls Tryd.prog 94 #[.int .i64 1] w (NatOut 1 w) := rnat_any 1 w (by unfold I63; decide)
theorem rcmp_c (A B : Option Addr) (ca cb a b : Nat) (c : Int) (w : World) (hA : IsL w A (nd a) a) (hB : IsL w B (nd b) b) (ma : Mod a) (mb : Mod b) (hc : cmpI a b = c) :
    Calls Tryd.prog 102 #[.slice A (nd a) ca, .slice B (nd b) cb] w fun e w' => e = .returned (.int .i64 c) ∧ Below w.heap.size w w' := by
  subst hc; exact rcmp_any A B ca cb a b w hA hB ma mb
/-- What holds in over's rounds: of a's bits from j on, Q times b and R left. -/
def OverInv (a b j Q R : Nat) : Prop := a / 2 ^ j = Q * b + R ∧ R < b
theorem overInv_start {a b : Nat} (hb : 0 < b) : OverInv a b (bl a) 0 0 := by
  unfold OverInv
  rw [Nat.div_eq_of_lt (lt_two_bl a), Nat.zero_mul]; exact ⟨rfl, hb⟩
theorem overInv_step {a b i Q R : Nat} (h : OverInv a b (i + 1) Q R) :
    (R * 2 + a / 2 ^ i % 2 < b → OverInv a b i (Q * 2) (R * 2 + a / 2 ^ i % 2)) ∧ (b ≤ R * 2 + a / 2 ^ i % 2 → OverInv a b i (Q * 2 + 1) (R * 2 + a / 2 ^ i % 2 - b)) ∧ Q ≤ a ∧ R ≤ a := by
  obtain ⟨h, hr⟩ := h
  have e : a / 2 ^ i = 2 * (a / 2 ^ (i + 1)) + a / 2 ^ i % 2 := by
    rw [Nat.pow_succ, ← Nat.div_div_eq_div_mul]; omega
  have hq : Q ≤ Q * b := Nat.le_mul_of_pos_right Q (by omega)
  have hle := Nat.div_le_self a (2 ^ (i + 1))
  have ht : a / 2 ^ i % 2 < 2 := Nat.mod_lt _ (by decide)
  unfold OverInv
  generalize a / 2 ^ i % 2 = t at *
  rw [e, h, Nat.mul_add, Nat.add_mul, Nat.mul_right_comm, Nat.mul_comm 2 (Q * b), Nat.one_mul]
  generalize Q * b = s at *
  refine ⟨fun h => ⟨by omega, by omega⟩, fun h => ⟨by omega, by omega⟩, by omega, by omega⟩
theorem overInv_end {a b Q R : Nat} (h : OverInv a b 0 Q R) : Q = a / b ∧ R = a % b := by
  obtain ⟨h, hr⟩ := h
  rw [Nat.pow_zero, Nat.div_one] at h
  rw [h, Nat.mul_comm Q b, Nat.mul_add_div (by omega), Nat.div_eq_of_lt hr, Nat.mul_add_mod, Nat.mod_eq_of_lt hr]
  exact ⟨rfl, rfl⟩
/-- A slot that reads as n. -/
def SL (w : World) (v : Value) (n : Nat) : Prop := ∃ A c, v = .slice A (nd n) c ∧ nd n ≤ c ∧ c ≤ maxLen ∧ IsL w A (nd n) n
theorem SL.below {w w' : World} {B : Nat} {v : Value} {n : Nat} (h : SL w v n) (hB : w.heap.size ≤ B) (hb : Below B w w') : SL w' v n := by
  obtain ⟨A, c, h1, h2, h3, h4⟩ := h
  exact ⟨A, c, h1, h2, h3, h4.below hB hb⟩
theorem SL.nil (w : World) : SL w (.slice none 0 0) 0 := ⟨none, 0, by rw [nd_zero], by rw [nd_zero]; exact Nat.le_refl _, Nat.zero_le _, by rw [nd_zero]; exact IsL.none_⟩
def OverOut (a b : Nat) (w : World) (e : Ending) (w' : World) : Prop := ∃ A c, e = .returned (.tuple #[.slice A (nd (a / b)) c, .bool (decide (a % b = 0))]) ∧ nd (a / b) ≤ c ∧ c ≤ maxLen ∧ IsL w' A (nd (a / b)) (a / b) ∧ Below w.heap.size w w'
set_option maxRecDepth 100000 in
set_option maxHeartbeats 400000 in
theorem rover_any (A B : Option Addr) (ca cb a b : Nat) (w : World) (hA : IsL w A (nd a) a) (hB : IsL w B (nd b) b) (sa : Sm a) (sb : Sm b) (hb0 : 0 < b) :
    Calls Tryd.prog 98 #[.slice A (nd a) ca, .slice B (nd b) cb] w (OverOut a b w) := by
  have la := sa.mod.nd
  have hbl : bl a ≤ 100000 := sa
  go_enter Tryd.func98, Tryd.ntmps98
  go_wp2_with (go_at_call 104; refine (rsize_any _ _ _ _ hA sa.mod).mono ?_; rintro e w' ⟨rfl, rfl⟩)
  go_loopw [6, 7, 8] (fun q r i wr => ∃ j Q R : Nat, i = .int .i64 ((j : Int) - 1) ∧ j ≤ bl a ∧ Hid (OverInv a b j Q R) ∧ Hid (SL wr q Q) ∧ Hid (SL wr r R) ∧ Below w.heap.size w wr) (fun _ _ i _ => (intOf i + 1).toNat)
  case atStart => exact ⟨bl a, 0, 0, val_int (by omega), Nat.le_refl _, overInv_start hb0, SL.nil _, SL.nil _, Below.refl _ _⟩
  case round =>
    obtain ⟨j, Q, R, rfl, hj, hI, hq, hr, hB0⟩ := hrel
    rcases Nat.eq_zero_or_pos j with rfl | hp
    · obtain ⟨e1, e2⟩ := overInv_end hI.out
      obtain ⟨Aq, cq, rfl, h1, h2, h3⟩ := hq.out
      obtain ⟨Ar, cr, rfl, h4, h5, h6⟩ := hr.out
      clear hI hq hr hA hB
      subst e1 e2
      have hz : ((nd (a % b) : Int) == 0) = decide (a % b = 0) := by
        by_cases h : a % b = 0
        · rw [h, nd_zero]; rfl
        · rw [decide_eq_false h, beq_eq_false_iff_ne]; have := nd_pos.2 h; omega
      go_wp2
      go_ret2
      exact ⟨Aq, cq, rfl, h1, h2, h3, hB0⟩
    · obtain ⟨i, rfl⟩ : ∃ i, j = i + 1 := ⟨j - 1, by omega⟩
      obtain ⟨s1, s2, hQa, hRa⟩ := overInv_step hI.out
      have hi24 : i / 24 < nd a := by have := nd_bl a; omega
      obtain ⟨ad, rfl, hca⟩ := (hA.below (Nat.le_refl _) hB0).at_ hi24
      rw [show ((i + 1 : Nat) : Int) - 1 = i from by omega]
      obtain ⟨Aq, cq, rfl, h1, h2, h3⟩ := hq.out
      obtain ⟨Ar, cr, rfl, h4, h5, h6⟩ := hr.out
      clear hq hr
      have hbit := ibit a i
      have ht2 : a / 2 ^ i % 2 < 2 := Nat.mod_lt _ (by decide)
      have sQ : Sm Q := sa.le hQa
      have sR : Sm R := sa.le hRa
      replace s1 := Lib.hid s1
      replace s2 := Lib.hid s2
      clear hI hQa hRa
      generalize a / 2 ^ i % 2 = t at *
      have mR : Mod (R * 2) := by have := bl_mul_le R 2; have := bl_pow 1; rw [Nat.pow_one] at this; unfold Sm at sR; unfold Mod; omega
      have mQ : Mod (Q * 2) := by have := bl_mul_le Q 2; have := bl_pow 1; rw [Nat.pow_one] at this; unfold Sm at sQ; unfold Mod; omega
      have mt : Mod t := by have : bl t ≤ 1 := bl_le.2 (by omega); unfold Mod; omega
      have it : I63 t := by unfold I63; omega
      have mRt : Mod (R * 2 + t) := by have := bl_mul_le R 2; have := bl_add_le (R * 2) t; have := bl_pow 1; rw [Nat.pow_one] at this; have : bl t ≤ 1 := bl_le.2 (by omega); unfold Sm at sR; unfold Mod; omega
      have mQt : Mod (Q * 2 + 1) := by have := bl_mul_le Q 2; have := bl_add_le (Q * 2) 1; have := bl_pow 1; rw [Nat.pow_one] at this; have : bl 1 ≤ 1 := bl_le.2 (by omega); unfold Sm at sQ; unfold Mod; omega
      have m1 : Mod 1 := by have : bl 1 ≤ 1 := bl_le.2 (by omega); unfold Mod; omega
      go_wp2_with fail
      refine (rup1_any Ar cr R _ h6 mR).mono ?_
      rintro e w1 ⟨A1, c1, rfl, i1_n, i1_m, i1, hb_⟩
      replace h3 := h3.below (Nat.le_refl _) hb_
      replace hB0 := hB0.trans (hb_.mono hB0.size)
      clear hb_
      go_wp2_with fail
      refine (rnat_any t _ it).mono ?_
      rintro e w2 ⟨A2, c2, rfl, i2_n, i2_m, i2, hb_⟩
      replace i1 := i1.below (Nat.le_refl _) hb_
      replace h3 := h3.below (Nat.le_refl _) hb_
      replace hB0 := hB0.trans (hb_.mono hB0.size)
      clear hb_
      go_wp2_with fail
      refine (rplus_any _ _ _ _ (R * 2) t _ i1 i2 mR mt mRt).mono ?_
      rintro e w3 ⟨A3, c3, rfl, i3_n, i3_m, i3, hb_⟩
      replace h3 := h3.below (Nat.le_refl _) hb_
      replace hB0 := hB0.trans (hb_.mono hB0.size)
      clear hb_
      go_wp2_with fail
      refine (rup1_any Aq cq Q _ h3 mQ).mono ?_
      rintro e w4 ⟨A4, c4, rfl, i4_n, i4_m, i4, hb_⟩
      replace i3 := i3.below (Nat.le_refl _) hb_
      replace hB0 := hB0.trans (hb_.mono hB0.size)
      clear hb_
      generalize R * 2 + t = V at *
      by_cases hc : V < b
      · have hc1 := (cmpI_lt hc).symm
        have hI' := s1.out hc
        clear s1 s2
        go_wp2_with fail
        refine (rcmp_c _ _ _ _ V b (-1) _ i3 (hB.below (Nat.le_refl _) hB0) mRt sb.mod hc1).mono ?_
        rintro e w5 ⟨rfl, hb_⟩
        replace i3 := i3.below (Nat.le_refl _) hb_
        replace i4 := i4.below (Nat.le_refl _) hb_
        replace hB0 := hB0.trans (hb_.mono hB0.size)
        clear hb_
        go_wp2_with fail
        go_roundw
        case rel => exact ⟨i, Q * 2, V, val_int rfl, by omega, hI', ⟨A4, c4, rfl, i4_n, i4_m.1, i4⟩, ⟨A3, c3, rfl, i3_n, i3_m.1, i3⟩, hB0⟩
        case measure => simp [intOf]
      · have hc0 : (0 : Int) ≤ cmpI V b := by unfold cmpI; rw [if_neg hc]; split <;> omega
        have hI' := s2.out (by omega)
        have hbV : b ≤ V := by omega
        clear s1 s2
        generalize hc1 : cmpI V b = c at *
        replace hc1 := Lib.hid hc1
        go_wp2_with fail
        refine (rcmp_c _ _ _ _ V b c _ i3 (hB.below (Nat.le_refl _) hB0) mRt sb.mod hc1.out).mono ?_
        rintro e w5 ⟨rfl, hb_⟩
        replace i3 := i3.below (Nat.le_refl _) hb_
        replace i4 := i4.below (Nat.le_refl _) hb_
        replace hB0 := hB0.trans (hb_.mono hB0.size)
        clear hb_
        go_wp2_with fail
        refine (rminus_any _ _ _ _ V b _ i3 (hB.below (Nat.le_refl _) hB0) mRt hbV).mono ?_
        rintro e w6 ⟨A6, c6, rfl, i6_n, i6_m, i6, hb_⟩
        replace i4 := i4.below (Nat.le_refl _) hb_
        replace hB0 := hB0.trans (hb_.mono hB0.size)
        clear hb_
        go_wp2_with fail
        refine (rnat1_any _).mono ?_
        rintro e w7 ⟨A7, c7, rfl, i7_n, i7_m, i7, hb_⟩
        replace i4 := i4.below (Nat.le_refl _) hb_
        replace i6 := i6.below (Nat.le_refl _) hb_
        replace hB0 := hB0.trans (hb_.mono hB0.size)
        clear hb_
        go_wp2_with fail
        refine (rplus_any _ _ _ _ (Q * 2) 1 _ i4 i7 mQ m1 mQt).mono ?_
        rintro e w8 ⟨A8, c8, rfl, i8_n, i8_m, i8, hb_⟩
        replace i6 := i6.below (Nat.le_refl _) hb_
        replace hB0 := hB0.trans (hb_.mono hB0.size)
        clear hb_
        go_wp2_with fail
        go_roundw
        case rel => exact ⟨i, Q * 2 + 1, V - b, val_int rfl, by omega, hI', ⟨A8, c8, rfl, i8_n, i8_m.1, i8⟩, ⟨A6, c6, rfl, i6_n, i6_m.1, i6⟩, hB0⟩
        case measure => simp [intOf]
end Go.Proofs.YtldmbneckcjonaaDoor
namespace Go.Proofs.YtldmbneckcjonaaDoor
open Go.RowKit
/-- What holds in root's rounds. -/
def RootI (a j X : Nat) : Prop := X * X ≤ a ∧ a < (X + 2 ^ j) * (X + 2 ^ j)
theorem rootI_start (a : Nat) : RootI a ((bl a + 1) / 2 + 1) 0 := by
  refine ⟨Nat.zero_le _, ?_⟩
  rw [Nat.zero_add, ← Nat.pow_add]
  exact Nat.lt_of_lt_of_le (lt_two_bl a) (Nat.pow_le_pow_right (by decide) (by omega))
theorem rootI_step {a i X : Nat} (h : RootI a (i + 1) X) : ((X + 2 ^ i) * (X + 2 ^ i) ≤ a → RootI a i (X + 2 ^ i)) ∧ (a < (X + 2 ^ i) * (X + 2 ^ i) → RootI a i X) ∧ X ≤ a := by
  obtain ⟨h1, h2⟩ := h
  have e : X + 2 ^ (i + 1) = (X + 2 ^ i) + 2 ^ i := by rw [Nat.pow_succ]; omega
  rw [e] at h2
  exact ⟨fun h => ⟨h, h2⟩, fun h => ⟨h1, h⟩, Nat.le_trans (Nat.le_mul_self X) h1⟩
theorem rootI_end {a X : Nat} (h : RootI a 0 X) : X * X ≤ a ∧ a < (X + 1) * (X + 1) := h
def RootOutR (a : Nat) (w : World) (e : Ending) (w' : World) : Prop := ∃ X A c, (X * X ≤ a ∧ a < (X + 1) * (X + 1)) ∧ e = .returned (.tuple #[.slice A (nd X) c, .bool (decide (X * X = a))]) ∧ nd X ≤ c ∧ c ≤ maxLen ∧ IsL w' A (nd X) X ∧ Below w.heap.size w w'
theorem Sm.sq {a X i : Nat} (h : Sm a) (hX : X ≤ a) (hi : i < 51000) : Sm X ∧ Mod (2 ^ i) ∧ Mod (X + 2 ^ i) ∧ Mod (1 * 2 ^ i) ∧ Mod ((X + 2 ^ i) * (X + 2 ^ i)) ∧ Mod (X * X) := by
  have h1 := h.le hX
  have h2 := bl_pow i
  have h3 := bl_add_le X (2 ^ i)
  have h4 := bl_mul_le (X + 2 ^ i) (X + 2 ^ i)
  refine ⟨h1, ?_, ?_, ?_, ?_, h1.mul h1⟩ <;> (try rw [Nat.one_mul]) <;> unfold Sm at h1 <;> unfold Mod <;> omega
theorem ret_vb {v : Value} {b b' : Bool} (h : b = b') : Ending.returned (.tuple #[v, .bool b]) = .returned (.tuple #[v, .bool b']) := by rw [h]
theorem m1 : Mod 1 := by have : bl 1 ≤ 1 := bl_le.2 (by omega); unfold Mod; omega
set_option maxRecDepth 100000 in
set_option maxHeartbeats 400000 in
theorem rroot_any (A : Option Addr) (ca a : Nat) (w : World) (hA : IsL w A (nd a) a) (sa : Sm a) :
    Calls Tryd.prog 100 #[.slice A (nd a) ca] w (RootOutR a w) := by
  have la := sa.mod.nd
  have hbl : bl a ≤ 100000 := sa
  go_enter Tryd.func100, Tryd.ntmps100
  go_wp2_with (go_at_call 104; refine (rsize_any _ _ _ _ hA sa.mod).mono ?_; rintro e w' ⟨rfl, rfl⟩)
  go_loopw [4, 5] (fun x i wr => ∃ j X : Nat, i = .int .i64 ((j : Int) - 1) ∧ j ≤ 50002 ∧ Hid (RootI a j X) ∧ Hid (SL wr x X) ∧ Below w.heap.size w wr) (fun _ i _ => (intOf i + 1).toNat)
  case atStart => exact ⟨(bl a + 1) / 2 + 1, 0, val_int (by omega), by omega, rootI_start a, SL.nil _, Below.refl _ _⟩
  case round =>
    obtain ⟨j, X, rfl, hj, hI, hx, hB0⟩ := hrel
    obtain ⟨Ax, cx, rfl, h1, h2, h3⟩ := hx.out
    clear hx
    rcases Nat.eq_zero_or_pos j with rfl | hp
    · have he := rootI_end hI.out
      clear hI
      have hXa : X ≤ a := Nat.le_trans (Nat.le_mul_self X) he.1
      have sX := sa.le hXa
      have mXX := sX.mul sX
      have he1 := he.1
      replace he := Lib.hid he
      clear hXa
      go_wp2_with fail
      refine (rtimes_any _ _ _ _ X X _ h3 h3 sX.mod sX.mod).mono ?_
      rintro e w1 ⟨A1, c1, rfl, i1_n, i1_m, i1, hb_⟩
      replace h3 := h3.below (Nat.le_refl _) hb_
      replace hB0 := hB0.trans (hb_.mono hB0.size)
      clear hb_
      generalize hs : X * X = s at *
      replace hs := Lib.hid hs
      by_cases hq : s = a
      · have hc := (cmpI_eq hq).symm
        have hd : true = decide (s = a) := (decide_eq_true hq).symm
        replace hd := Lib.hid hd
        clear hq he1
        go_wp2_with fail
        refine (rcmp_c _ _ _ _ s a 0 _ i1 (hA.below (Nat.le_refl _) hB0) mXX sa.mod hc).mono ?_
        rintro e w2 ⟨rfl, hb_⟩
        replace h3 := h3.below (Nat.le_refl _) hb_
        replace hB0 := hB0.trans (hb_.mono hB0.size)
        clear hb_
        go_wp2_with fail
        go_ret2
        exact ⟨X, Ax, cx, (by have h := he.out; rw [← hs.out] at h; exact h), ret_vb (by rw [hs.out]; exact hd.out), h1, h2, h3, hB0⟩
      · have hc := (cmpI_lt (show s < a by omega)).symm
        have hd : false = decide (s = a) := (decide_eq_false hq).symm
        replace hd := Lib.hid hd
        clear hq he1
        go_wp2_with fail
        refine (rcmp_c _ _ _ _ s a (-1) _ i1 (hA.below (Nat.le_refl _) hB0) mXX sa.mod hc).mono ?_
        rintro e w2 ⟨rfl, hb_⟩
        replace h3 := h3.below (Nat.le_refl _) hb_
        replace hB0 := hB0.trans (hb_.mono hB0.size)
        clear hb_
        go_wp2_with fail
        go_ret2
        exact ⟨X, Ax, cx, (by have h := he.out; rw [← hs.out] at h; exact h), ret_vb (by rw [hs.out]; exact hd.out), h1, h2, h3, hB0⟩
    · obtain ⟨i, rfl⟩ : ∃ i, j = i + 1 := ⟨j - 1, by omega⟩
      obtain ⟨s1, s2, hXa⟩ := rootI_step hI.out
      obtain ⟨sX, mi, my, mi1, myy, _⟩ := sa.sq hXa (i := i) (by omega)
      have mX := sX.mod
      clear hI hXa
      rw [show ((i + 1 : Nat) : Int) - 1 = i from by omega]
      go_wp2_with fail
      refine (rnat1_any _).mono ?_
      rintro e w1 ⟨A1, c1, rfl, i1_n, i1_m, i1, hb_⟩
      replace h3 := h3.below (Nat.le_refl _) hb_
      replace hB0 := hB0.trans (hb_.mono hB0.size)
      clear hb_
      go_wp2_with fail
      refine (rup_any _ _ 1 i _ i1 mi1).mono ?_
      rintro e w2 ⟨A2, c2, rfl, i2_n, i2_m, i2, hb_⟩
      replace h3 := h3.below (Nat.le_refl _) hb_
      replace hB0 := hB0.trans (hb_.mono hB0.size)
      clear hb_
      rw [Nat.one_mul] at i2 i2_n ⊢
      generalize 2 ^ i = p at *
      go_wp2_with fail
      refine (rplus_any _ _ _ _ X p _ h3 i2 mX mi my).mono ?_
      rintro e w3 ⟨A3, c3, rfl, i3_n, i3_m, i3, hb_⟩
      replace h3 := h3.below (Nat.le_refl _) hb_
      replace hB0 := hB0.trans (hb_.mono hB0.size)
      clear hb_
      generalize X + p = y at *
      go_wp2_with fail
      refine (rtimes_any _ _ _ _ y y _ i3 i3 my my).mono ?_
      rintro e w4 ⟨A4, c4, rfl, i4_n, i4_m, i4, hb_⟩
      replace h3 := h3.below (Nat.le_refl _) hb_
      replace i3 := i3.below (Nat.le_refl _) hb_
      replace hB0 := hB0.trans (hb_.mono hB0.size)
      clear hb_
      generalize hs : y * y = s at *
      by_cases hc : s ≤ a
      · have hc0 : cmpI s a ≤ 0 := by unfold cmpI; split; omega; split <;> omega
        have hI' := s1 hc
        clear s1 s2
        generalize hc1 : cmpI s a = c at *
        replace hc1 := Lib.hid hc1
        go_wp2_with fail
        refine (rcmp_c _ _ _ _ s a c _ i4 (hA.below (Nat.le_refl _) hB0) myy sa.mod hc1.out).mono ?_
        rintro e w5 ⟨rfl, hb_⟩
        replace h3 := h3.below (Nat.le_refl _) hb_
        replace i3 := i3.below (Nat.le_refl _) hb_
        replace hB0 := hB0.trans (hb_.mono hB0.size)
        clear hb_
        go_wp2_with fail
        go_roundw
        case rel => exact ⟨i, y, val_int rfl, by omega, hI', ⟨A3, c3, rfl, i3_n, i3_m.1, i3⟩, hB0⟩
        case measure => simp [intOf]
      · have hc1 := (cmpI_gt (show a < s by omega)).symm
        have hI' := s2 (by omega)
        clear s1 s2
        go_wp2_with fail
        refine (rcmp_c _ _ _ _ s a 1 _ i4 (hA.below (Nat.le_refl _) hB0) myy sa.mod hc1).mono ?_
        rintro e w5 ⟨rfl, hb_⟩
        replace h3 := h3.below (Nat.le_refl _) hb_
        replace i3 := i3.below (Nat.le_refl _) hb_
        replace hB0 := hB0.trans (hb_.mono hB0.size)
        clear hb_
        go_wp2_with fail
        go_roundw
        case rel => exact ⟨i, X, val_int rfl, by omega, hI', ⟨Ax, cx, rfl, h1, h2, h3⟩, hB0⟩
        case measure => simp [intOf]
end Go.Proofs.YtldmbneckcjonaaDoor
namespace Go.Proofs.YtldmbneckcjonaaDoor
open Go.RowKit
theorem pow_split (q s : Nat) : 2 ^ (24 * q + s) = BB ^ q * 2 ^ s := by rw [Nat.pow_add, pow24]
theorem BB_split {s : Nat} (h : s < 24) : BB = 2 ^ s * 2 ^ (24 - s) := by rw [← two24, ← Nat.pow_add]; congr 1; omega
theorem mod_pow_dg {a q s : Nat} (h : s < 24) : a / BB ^ q % 2 ^ s = dg a q % 2 ^ s := by
  unfold dg; rw [BB_split h, Nat.mod_mul_right_mod]
theorem down_whole {a q s : Nat} (h : s < 24) : a % 2 ^ (24 * q + s) = a % BB ^ q + BB ^ q * (dg a q % 2 ^ s) := by
  rw [pow_split, Nat.mod_mul, mod_pow_dg h]
theorem down_dg {a q s j : Nat} (h : s < 24) : dg (a / 2 ^ (24 * q + s)) j = dg a (q + j) / 2 ^ s + dg a (q + j + 1) % 2 ^ s * 2 ^ (24 - s) := by
  have e : a / 2 ^ (24 * q + s) / BB ^ j = a / BB ^ (q + j) / 2 ^ s := by
    rw [pow_split, Nat.div_div_eq_div_mul, Nat.div_div_eq_div_mul, Nat.pow_add, Nat.mul_right_comm]
  have hx := div_split a (q + j)
  have hy := mod_pow_dg (a := a) (q := q + j + 1) h
  have hd := dg_lt a (q + j)
  have hp := Nat.two_pow_pos s
  have hp2 := Nat.two_pow_pos (24 - s)
  unfold dg at hd ⊢
  rw [e]
  rw [show a / BB ^ (q + j) % BB = dg a (q + j) from by unfold dg; rfl] at *
  rw [show a / BB ^ (q + j + 1) % BB = dg a (q + j + 1) from by unfold dg; rfl]
  rw [hx, ← hy]
  generalize dg a (q + j) = d at *
  generalize a / BB ^ (q + j + 1) = y at *
  have hB := BB_split h
  rw [hB, Nat.mul_assoc, Nat.add_mul_div_left _ _ hp]
  have hd2 : d / 2 ^ s < 2 ^ (24 - s) := by rw [Nat.div_lt_iff_lt_mul hp, Nat.mul_comm, ← hB]; exact hd
  have hy2 := Nat.mod_add_div y (2 ^ s)
  have hy3 := Nat.mod_lt y hp
  have e2 : d / 2 ^ s + 2 ^ (24 - s) * y = (d / 2 ^ s + y % 2 ^ s * 2 ^ (24 - s)) + 2 ^ s * 2 ^ (24 - s) * (y / 2 ^ s) := by
    conv => lhs; rw [← hy2]
    rw [Nat.mul_add, Nat.mul_comm (2 ^ (24 - s)) (y % 2 ^ s), Nat.mul_right_comm (2 ^ s), Nat.mul_comm (2 ^ s * (y / 2 ^ s)), Nat.add_assoc]
  rw [e2, Nat.add_mul_mod_self_left]
  apply Nat.mod_eq_of_lt
  have : y % 2 ^ s * 2 ^ (24 - s) ≤ (2 ^ s - 1) * 2 ^ (24 - s) := Nat.mul_le_mul_right _ (by omega)
  rw [Nat.sub_mul, Nat.one_mul] at this
  have h4 : 2 ^ (24 - s) ≤ 2 ^ s * 2 ^ (24 - s) := Nat.le_mul_of_pos_left _ hp
  omega
theorem down_nd {a q s : Nat} : nd (a / 2 ^ (24 * q + s)) ≤ nd a - q := by
  rw [nd_le, pow_split, ← Nat.div_div_eq_div_mul]
  refine Nat.lt_of_le_of_lt (Nat.div_le_self _ _) ?_
  rw [Nat.div_lt_iff_lt_mul (powBB_pos q), ← Nat.pow_add]
  exact nd_le.1 (by omega)
theorem down_big {a q s : Nat} (h : nd a ≤ q) : a / 2 ^ (24 * q + s) = 0 ∧ a % 2 ^ (24 * q + s) = a := by
  have h1 : a < 2 ^ (24 * q + s) := by
    rw [pow_split]
    exact Nat.lt_of_lt_of_le (nd_le.1 h) (Nat.le_mul_of_pos_right _ (Nat.two_pow_pos s))
  exact ⟨Nat.div_eq_of_lt h1, Nat.mod_eq_of_lt h1⟩
theorem whole_step (a j : Nat) : a % BB ^ (j + 1) = 0 ↔ a % BB ^ j = 0 ∧ dg a j = 0 := by
  rw [mod_succ]
  have := powBB_pos j
  generalize a % BB ^ j = t at *
  constructor
  · intro h
    have h1 : BB ^ j * dg a j = 0 := by omega
    rcases Nat.mul_eq_zero.1 h1 with h2 | h2
    · omega
    · exact ⟨by omega, h2⟩
  · rintro ⟨h1, h2⟩; rw [h1, h2, Nat.mul_zero]
theorem two_pow_facts {s : Nat} (h : s < 24) : ∃ p : Nat, 0 < p ∧ Hid (p = 2 ^ s) ∧ wrap64 ((2 : Int) ^ s) = p ∧ IntKind.i64.wrap ((2 : Int) ^ s) = p := by
  have h1 : (2 : Nat) ^ s < 2 ^ 24 := Nat.pow_lt_pow_right (by decide) h
  have e : (2 : Int) ^ s = ((2 ^ s : Nat) : Int) := (Int.natCast_pow 2 _).symm
  have hp := Nat.two_pow_pos s
  rw [e]
  refine ⟨2 ^ s, hp, rfl, ?_, ?_⟩
  · unfold wrap64; generalize 2 ^ s = p at *; omega
  · rw [IntKind.wrap_i64]; generalize 2 ^ s = p at *; omega
theorem tmod_nat (x p : Nat) : (x : Int).tmod p = ((x % p : Nat) : Int) := by rw [Int.natCast_emod, Int.tmod_eq_emod_of_nonneg (by omega)]
def DownOut (n : Nat) (b : Bool) (w : World) (e : Ending) (w' : World) : Prop := ∃ A c, e = .returned (.tuple #[.slice A (nd n) c, .bool b]) ∧ nd n ≤ c ∧ c ≤ maxLen ∧ IsL w' A (nd n) n ∧ Below w.heap.size w w'
set_option maxRecDepth 100000 in
set_option maxHeartbeats 400000 in
theorem rdown_big (A : Option Addr) (ca a q s : Nat) (K : Int) (w : World) (hA : IsL w A (nd a) a) (ma : Mod a) (h0 : 0 ≤ K) (hq : K / 24 = q) (hs : K % 24 = s) (hs24 : s < 24) (hbig : nd a ≤ q) (hq60 : q < 1000000) :
    Calls Tryd.prog 112 #[.slice A (nd a) ca, .int .i64 K] w (DownOut 0 (decide (a = 0)) w) := by
  have la := ma.nd
  go_enter Tryd.func112, Tryd.ntmps112
  go_wp2
  go_loop [6, 7] (fun b i => ∃ j : Nat, i = .int .i64 j ∧ j ≤ nd a ∧ b = .bool (decide (a % BB ^ j = 0))) (fun _ i => nd a - (intOf i).toNat)
  case atStart => exact ⟨0, rfl, Nat.zero_le _, by rw [Nat.pow_zero, Nat.mod_one]; rfl⟩
  case round =>
    obtain ⟨j, rfl, hj, rfl⟩ := hrel
    by_cases h1 : j < nd a
    · obtain ⟨ad, rfl, hca⟩ := hA.at_ (i := j) (by omega)
      have hst := whole_step a j
      by_cases hw : a % BB ^ j = 0
      · rw [decide_eq_true hw]
        by_cases hd : dg a j = 0
        · have hn : true = decide (a % BB ^ (j + 1) = 0) := (decide_eq_true (hst.2 ⟨hw, hd⟩)).symm
          rw [hd] at hca
          replace hn := Lib.hid hn
          clear hst hw hd
          go_wp2
          go_round
          case rel => exact ⟨j + 1, rfl, by omega, by rw [← hn.out]⟩
          case measure => simp [intOf]; omega
        · have hn : false = decide (a % BB ^ (j + 1) = 0) := (decide_eq_false fun h => hd (hst.1 h).2).symm
          have hz : ((dg a j : Int) == 0) = false := by rw [beq_eq_false_iff_ne]; omega
          replace hn := Lib.hid hn
          clear hst hw hd
          go_wp2
          go_round
          case rel => exact ⟨j + 1, rfl, by omega, by rw [← hn.out]⟩
          case measure => simp [intOf]; omega
      · rw [decide_eq_false hw]
        have hn : false = decide (a % BB ^ (j + 1) = 0) := (decide_eq_false fun h => hw (hst.1 h).1).symm
        replace hn := Lib.hid hn
        clear hst hw
        go_wp2
        go_round
        case rel => exact ⟨j + 1, rfl, by omega, by rw [← hn.out]⟩
        case measure => simp [intOf]; omega
    · obtain rfl : j = nd a := by omega
      have hn : decide (a % BB ^ nd a = 0) = decide (a = 0) := by rw [Nat.mod_eq_of_lt (lt_pow_nd a)]
      rw [hn]
      clear hn hA
      go_wp2
      all_goals go_ret2
      all_goals exact ⟨none, 0, by rw [nd_zero]; rfl, Nat.le_of_eq nd_zero, Nat.zero_le _, by rw [nd_zero]; exact IsL.none_, Below.refl _ _⟩
end Go.Proofs.YtldmbneckcjonaaDoor
namespace Go.Proofs.YtldmbneckcjonaaDoor
open Go.RowKit
/-- The cells that a round of down reads, and what it makes of them. -/
def Next (wr : World) (ad : Addr) (na q s p u n z x0 : Nat) : Prop :=
  (q + n + 1 < na → ∃ x1 d0 r1 m : Nat, wr.cell? (ad.add (q + n + 1)) = some (.int .i64 x1) ∧ (x0 : Int) / 2 ^ s = d0 ∧ (x1 : Int).tmod p = r1 ∧ IntKind.i64.wrap ((r1 : Int) * 2 ^ u) = m ∧ IntKind.i64.wrap ((d0 : Int) + m) = z ∧ IntKind.i64.wrap ((q : Int) + n + 1) = (q : Int) + n + 1 ∧ (d0 : Int) + m = z) ∧
  (¬ q + n + 1 < na → ∃ d0 : Nat, (x0 : Int) / 2 ^ s = d0 ∧ z = d0)
set_option maxRecDepth 100000 in
set_option maxHeartbeats 1000000 in
theorem rdown_core (ad : Addr) (ca a q s p u D : Nat) (wb : Bool) (K : Int) (w : World) (hA : IsL w (some ad) (nd a) a) (ma : Mod a) (h0 : 0 ≤ K) (hq : K / 24 = q) (hs : K % 24 = s) (hs24 : s < 24) (hbig : q < nd a)
    (hp0 : 0 < p) (hpw : wrap64 ((2 : Int) ^ s) = p) (hpw2 : IntKind.i64.wrap ((2 : Int) ^ s) = p) (hu1 : (24 : Int) - s = u) (hu2 : IntKind.i64.wrap ((24 : Int) - s) = u) (hnn : nd D ≤ nd a - q)
    (hW : Hid (wb = (decide (a % BB ^ q = 0) && decide (dg a q % p = 0))))
    (hcl : Hid (∀ wr, Below w.heap.size w wr → ∀ n, n < nd a - q → ∃ ad' x0, some ad = some ad' ∧ wr.cell? (ad'.add (q + n)) = some (.int .i64 ((x0 : Nat) : Int)) ∧ x0 < 16777216 ∧ Hid (Next wr ad' (nd a) q s p u n (dg D n) x0))) :
    Calls Tryd.prog 112 #[.slice (some ad) (nd a) ca, .int .i64 K] w (DownOut D wb w) := by
  have la := ma.nd
  obtain ⟨i0, hi, hz0, hz1, hz2⟩ := info_parts info3
  go_enter Tryd.func112, Tryd.ntmps112
  go_wp2
  go_loop [6, 7] (fun b i => ∃ j : Nat, i = .int .i64 j ∧ j ≤ q ∧ b = .bool (decide (a % BB ^ j = 0))) (fun _ i => q - (intOf i).toNat)
  case atStart => exact ⟨0, rfl, Nat.zero_le _, by rw [Nat.pow_zero, Nat.mod_one]; rfl⟩
  case round =>
    obtain ⟨j, rfl, hj, rfl⟩ := hrel
    by_cases h1 : j < q
    · obtain ⟨_, e0, hca⟩ := hA.at_ (i := j) (by omega)
      injection e0 with e0
      subst e0
      have hst := whole_step a j
      by_cases hw : a % BB ^ j = 0
      · rw [decide_eq_true hw]
        by_cases hd : dg a j = 0
        · have hn : true = decide (a % BB ^ (j + 1) = 0) := (decide_eq_true (hst.2 ⟨hw, hd⟩)).symm
          rw [hd] at hca
          replace hn := Lib.hid hn
          clear hst hw hd
          go_wp2
          go_round
          case rel => exact ⟨j + 1, rfl, by omega, by rw [← hn.out]⟩
          case measure => simp [intOf]; omega
        · have hn : false = decide (a % BB ^ (j + 1) = 0) := (decide_eq_false fun h => hd (hst.1 h).2).symm
          have hz : ((dg a j : Int) == 0) = false := by rw [beq_eq_false_iff_ne]; omega
          replace hn := Lib.hid hn
          clear hst hw hd
          go_wp2
          go_round
          case rel => exact ⟨j + 1, rfl, by omega, by rw [← hn.out]⟩
          case measure => simp [intOf]; omega
      · rw [decide_eq_false hw]
        have hn : false = decide (a % BB ^ (j + 1) = 0) := (decide_eq_false fun h => hw (hst.1 h).1).symm
        replace hn := Lib.hid hn
        clear hst hw
        go_wp2
        go_round
        case rel => exact ⟨j + 1, rfl, by omega, by rw [← hn.out]⟩
        case measure => simp [intOf]; omega
    · obtain rfl : j = q := by omega
      clear h1
      obtain ⟨_, e0, hca⟩ := hA.at_ (i := j) (by omega)
      injection e0 with e0
      subst e0
      by_cases hw : a % BB ^ j = 0
      · rw [decide_eq_true hw]
        by_cases hz : dg a j % p = 0
        · have hr := tmod_nat (dg a j) p
          rw [hz] at hr
          have hv := hW.out
          rw [decide_eq_true hw, decide_eq_true hz] at hv
          simp only [Bool.and_self] at hv
          subst hv
          clear hw hz hW
          go_wp2
          go_quiet (fail)
          (try rw [hq])
          clear hr hca hA
          go_wp2
          (try rw [hq])
          go_loopw [8, 10] (fun c i wr => ∃ n : Nat, i = .int .i64 ((j : Int) + n) ∧ n ≤ nd a - j ∧ wr.ownsRow w.heap.size 3 1 c n (lows n D) ∧ Below w.heap.size w wr) (fun _ i _ => nd a - (intOf i).toNat)
          case atStart => exact ⟨0, val_int (by omega), Nat.zero_le _, ⟨by rw [lows_zero]; rfl, .inl ⟨rfl, rfl⟩⟩, bdrew (Below.refl _ _) _⟩
          case round =>
            obtain ⟨n, rfl, hn1, hown, hB0⟩ := hrel
            by_cases h2 : n < nd a - j
            · obtain ⟨ad', x0, e0, hc0, hx0, hnext⟩ := hcl.out wr hB0 n h2
              injection e0 with e0
              subst e0
              have hls := Lib.hid (lows_succ n D)
              have hz24 := dg_lt D n
              have rel : ∀ (c : Value) (wr' : World), wr'.ownsRow w.heap.size 3 1 c (n + 1) (lows (n + 1) D) → Below w.heap.size w wr' → ∃ n' : Nat, Value.int .i64 ((j : Int) + n + 1) = .int .i64 ((j : Int) + n') ∧ n' ≤ nd a - j ∧ wr'.ownsRow w.heap.size 3 1 c n' (lows n' D) ∧ Below w.heap.size w wr' :=
                fun c wr' h3 h4 => ⟨n + 1, val_int (by omega), by omega, h3, h4⟩
              replace rel := Lib.hid rel
              rw [BB_eq] at hz24
              by_cases h3 : j + n + 1 < nd a
              · obtain ⟨x1, d0, r1, m, hc1, f1, f2, f3, f4, f5, f6⟩ := hnext.out.1 h3
                generalize dg D n = z at *
                have hi0 : (0 : Int) ≤ (j : Int) + n + 1 := by omega
                have hi1 : (j : Int) + n + 1 < nd a := by omega
                have hi2 : ((j : Int) + n + 1).toNat = j + n + 1 := by omega
                have hc2 : wr.cell? ⟨ad.block, ad.off + (j + n + 1), none⟩ = some (.int .i64 x1) := by have h := hc1; unfold Addr.add at h; rw [if_neg (by omega)] at h; exact h
                go_wp2
                go_quiet (fail)
                go_wp2_with (at_builtin; refine wpList_append_own _ rfl _ _ 117 rfl w.heap.size 3 i0 (.int .i64 0) 1 8 Tryd.underlying117 hi hz0 hz1 hz2 rfl (by decide) _ _ _ rfl (hown.alloc _) ⟨_, 0, none⟩ 1 1 [.int .i64 z] rfl rfl (new_cell1 _ _ _) (one_int _) (by unfold maxLen; omega) (by omega) (by have := hB0.size; simp; omega) ?_)
                intro v' w1 hown' hgrow _
                have hB1 := below_append (bdrew hB0 _) hown hgrow
                clear hown hB0 hgrow
                rw [← hls.out] at hown'
                go_wp2
                go_roundw
                case rel => exact rel.out _ _ hown' hB1
                case measure => simp [intOf]; omega
              · obtain ⟨d0, f1, f4⟩ := hnext.out.2 (by omega)
                generalize dg D n = z at *
                subst f4
                go_wp2_with (at_builtin; refine wpList_append_own _ rfl _ _ 117 rfl w.heap.size 3 i0 (.int .i64 0) 1 8 Tryd.underlying117 hi hz0 hz1 hz2 rfl (by decide) _ _ _ rfl (hown.alloc _) ⟨_, 0, none⟩ 1 1 [.int .i64 z] rfl rfl (new_cell1 _ _ _) (one_int _) (by unfold maxLen; omega) (by omega) (by have := hB0.size; simp; omega) ?_)
                intro v' w1 hown' hgrow _
                have hB1 := below_append hB0 hown hgrow
                clear hown hB0 hgrow
                rw [← hls.out] at hown'
                go_wp2
                go_roundw
                case rel => exact rel.out _ _ hown' hB1
                case measure => simp [intOf]; omega
            · obtain rfl : n = nd a - j := by omega
              obtain ⟨C, cc, rfl, h5, h6, _⟩ := own_cap hown
              have hC := IsL.of_own hown
              clear hown hcl
              go_wp2_with (go_at_call 113; refine (trim_any _ _ _ D _ hC hnn h5 (by omega)).mono ?_; rintro e w' ⟨rfl, rfl⟩)
              go_ret2
              exact ⟨C, cc, rfl, by omega, h6.1, hC.low hnn, hB0⟩
        · have hr := tmod_nat (dg a j) p
          have hv := hW.out
          rw [decide_eq_true hw, decide_eq_false hz] at hv
          simp only [Bool.and_false] at hv
          subst hv
          obtain ⟨r, hr0⟩ : ∃ r, r = dg a j % p := ⟨_, rfl⟩
          rw [← hr0] at hr hz
          have hrz : ((r : Int) == 0) = false := by rw [beq_eq_false_iff_ne]; omega
          clear hw hz hW hr0
          go_wp2
          go_quiet (fail)
          (try rw [hq])
          clear hr hca hA hrz
          go_wp2
          (try rw [hq])
          go_loopw [8, 10] (fun c i wr => ∃ n : Nat, i = .int .i64 ((j : Int) + n) ∧ n ≤ nd a - j ∧ wr.ownsRow w.heap.size 3 1 c n (lows n D) ∧ Below w.heap.size w wr) (fun _ i _ => nd a - (intOf i).toNat)
          case atStart => exact ⟨0, val_int (by omega), Nat.zero_le _, ⟨by rw [lows_zero]; rfl, .inl ⟨rfl, rfl⟩⟩, bdrew (Below.refl _ _) _⟩
          case round =>
            obtain ⟨n, rfl, hn1, hown, hB0⟩ := hrel
            by_cases h2 : n < nd a - j
            · obtain ⟨ad', x0, e0, hc0, hx0, hnext⟩ := hcl.out wr hB0 n h2
              injection e0 with e0
              subst e0
              have hls := Lib.hid (lows_succ n D)
              have hz24 := dg_lt D n
              have rel : ∀ (c : Value) (wr' : World), wr'.ownsRow w.heap.size 3 1 c (n + 1) (lows (n + 1) D) → Below w.heap.size w wr' → ∃ n' : Nat, Value.int .i64 ((j : Int) + n + 1) = .int .i64 ((j : Int) + n') ∧ n' ≤ nd a - j ∧ wr'.ownsRow w.heap.size 3 1 c n' (lows n' D) ∧ Below w.heap.size w wr' :=
                fun c wr' h3 h4 => ⟨n + 1, val_int (by omega), by omega, h3, h4⟩
              replace rel := Lib.hid rel
              rw [BB_eq] at hz24
              by_cases h3 : j + n + 1 < nd a
              · obtain ⟨x1, d0, r1, m, hc1, f1, f2, f3, f4, f5, f6⟩ := hnext.out.1 h3
                generalize dg D n = z at *
                have hi0 : (0 : Int) ≤ (j : Int) + n + 1 := by omega
                have hi1 : (j : Int) + n + 1 < nd a := by omega
                have hi2 : ((j : Int) + n + 1).toNat = j + n + 1 := by omega
                have hc2 : wr.cell? ⟨ad.block, ad.off + (j + n + 1), none⟩ = some (.int .i64 x1) := by have h := hc1; unfold Addr.add at h; rw [if_neg (by omega)] at h; exact h
                go_wp2
                go_quiet (fail)
                go_wp2_with (at_builtin; refine wpList_append_own _ rfl _ _ 117 rfl w.heap.size 3 i0 (.int .i64 0) 1 8 Tryd.underlying117 hi hz0 hz1 hz2 rfl (by decide) _ _ _ rfl (hown.alloc _) ⟨_, 0, none⟩ 1 1 [.int .i64 z] rfl rfl (new_cell1 _ _ _) (one_int _) (by unfold maxLen; omega) (by omega) (by have := hB0.size; simp; omega) ?_)
                intro v' w1 hown' hgrow _
                have hB1 := below_append (bdrew hB0 _) hown hgrow
                clear hown hB0 hgrow
                rw [← hls.out] at hown'
                go_wp2
                go_roundw
                case rel => exact rel.out _ _ hown' hB1
                case measure => simp [intOf]; omega
              · obtain ⟨d0, f1, f4⟩ := hnext.out.2 (by omega)
                generalize dg D n = z at *
                subst f4
                go_wp2_with (at_builtin; refine wpList_append_own _ rfl _ _ 117 rfl w.heap.size 3 i0 (.int .i64 0) 1 8 Tryd.underlying117 hi hz0 hz1 hz2 rfl (by decide) _ _ _ rfl (hown.alloc _) ⟨_, 0, none⟩ 1 1 [.int .i64 z] rfl rfl (new_cell1 _ _ _) (one_int _) (by unfold maxLen; omega) (by omega) (by have := hB0.size; simp; omega) ?_)
                intro v' w1 hown' hgrow _
                have hB1 := below_append hB0 hown hgrow
                clear hown hB0 hgrow
                rw [← hls.out] at hown'
                go_wp2
                go_roundw
                case rel => exact rel.out _ _ hown' hB1
                case measure => simp [intOf]; omega
            · obtain rfl : n = nd a - j := by omega
              obtain ⟨C, cc, rfl, h5, h6, _⟩ := own_cap hown
              have hC := IsL.of_own hown
              clear hown hcl
              go_wp2_with (go_at_call 113; refine (trim_any _ _ _ D _ hC hnn h5 (by omega)).mono ?_; rintro e w' ⟨rfl, rfl⟩)
              go_ret2
              exact ⟨C, cc, rfl, by omega, h6.1, hC.low hnn, hB0⟩
      · rw [decide_eq_false hw]
        have hv := hW.out
        rw [decide_eq_false hw] at hv
        simp only [Bool.false_and] at hv
        subst hv
        clear hw hW
        go_wp2
        go_quiet (fail)
        clear hca hA
        go_wp2
        (try rw [hq])
        go_loopw [8, 10] (fun c i wr => ∃ n : Nat, i = .int .i64 ((j : Int) + n) ∧ n ≤ nd a - j ∧ wr.ownsRow w.heap.size 3 1 c n (lows n D) ∧ Below w.heap.size w wr) (fun _ i _ => nd a - (intOf i).toNat)
        case atStart => exact ⟨0, val_int (by omega), Nat.zero_le _, ⟨by rw [lows_zero]; rfl, .inl ⟨rfl, rfl⟩⟩, bdrew (Below.refl _ _) _⟩
        case round =>
          obtain ⟨n, rfl, hn1, hown, hB0⟩ := hrel
          by_cases h2 : n < nd a - j
          · obtain ⟨ad', x0, e0, hc0, hx0, hnext⟩ := hcl.out wr hB0 n h2
            injection e0 with e0
            subst e0
            have hls := Lib.hid (lows_succ n D)
            have hz24 := dg_lt D n
            have rel : ∀ (c : Value) (wr' : World), wr'.ownsRow w.heap.size 3 1 c (n + 1) (lows (n + 1) D) → Below w.heap.size w wr' → ∃ n' : Nat, Value.int .i64 ((j : Int) + n + 1) = .int .i64 ((j : Int) + n') ∧ n' ≤ nd a - j ∧ wr'.ownsRow w.heap.size 3 1 c n' (lows n' D) ∧ Below w.heap.size w wr' :=
              fun c wr' h3 h4 => ⟨n + 1, val_int (by omega), by omega, h3, h4⟩
            replace rel := Lib.hid rel
            rw [BB_eq] at hz24
            by_cases h3 : j + n + 1 < nd a
            · obtain ⟨x1, d0, r1, m, hc1, f1, f2, f3, f4, f5, f6⟩ := hnext.out.1 h3
              generalize dg D n = z at *
              have hi0 : (0 : Int) ≤ (j : Int) + n + 1 := by omega
              have hi1 : (j : Int) + n + 1 < nd a := by omega
              have hi2 : ((j : Int) + n + 1).toNat = j + n + 1 := by omega
              have hc2 : wr.cell? ⟨ad.block, ad.off + (j + n + 1), none⟩ = some (.int .i64 x1) := by have h := hc1; unfold Addr.add at h; rw [if_neg (by omega)] at h; exact h
              go_wp2
              go_quiet (fail)
              go_wp2_with (at_builtin; refine wpList_append_own _ rfl _ _ 117 rfl w.heap.size 3 i0 (.int .i64 0) 1 8 Tryd.underlying117 hi hz0 hz1 hz2 rfl (by decide) _ _ _ rfl (hown.alloc _) ⟨_, 0, none⟩ 1 1 [.int .i64 z] rfl rfl (new_cell1 _ _ _) (one_int _) (by unfold maxLen; omega) (by omega) (by have := hB0.size; simp; omega) ?_)
              intro v' w1 hown' hgrow _
              have hB1 := below_append (bdrew hB0 _) hown hgrow
              clear hown hB0 hgrow
              rw [← hls.out] at hown'
              go_wp2
              go_roundw
              case rel => exact rel.out _ _ hown' hB1
              case measure => simp [intOf]; omega
            · obtain ⟨d0, f1, f4⟩ := hnext.out.2 (by omega)
              generalize dg D n = z at *
              subst f4
              go_wp2_with (at_builtin; refine wpList_append_own _ rfl _ _ 117 rfl w.heap.size 3 i0 (.int .i64 0) 1 8 Tryd.underlying117 hi hz0 hz1 hz2 rfl (by decide) _ _ _ rfl (hown.alloc _) ⟨_, 0, none⟩ 1 1 [.int .i64 z] rfl rfl (new_cell1 _ _ _) (one_int _) (by unfold maxLen; omega) (by omega) (by have := hB0.size; simp; omega) ?_)
              intro v' w1 hown' hgrow _
              have hB1 := below_append hB0 hown hgrow
              clear hown hB0 hgrow
              rw [← hls.out] at hown'
              go_wp2
              go_roundw
              case rel => exact rel.out _ _ hown' hB1
              case measure => simp [intOf]; omega
          · obtain rfl : n = nd a - j := by omega
            obtain ⟨C, cc, rfl, h5, h6, _⟩ := own_cap hown
            have hC := IsL.of_own hown
            clear hown hcl
            go_wp2_with (go_at_call 113; refine (trim_any _ _ _ D _ hC hnn h5 (by omega)).mono ?_; rintro e w' ⟨rfl, rfl⟩)
            go_ret2
            exact ⟨C, cc, rfl, by omega, h6.1, hC.low hnn, hB0⟩
theorem Next_of {w : World} {ad : Addr} {a q s p u : Nat} (hA : IsL w (some ad) (nd a) a) (hs24 : s < 24) (hp1 : p = 2 ^ s) (hu : u = 24 - s) (la : nd a ≤ 41667) :
    ∀ wr, Below w.heap.size w wr → ∀ n, n < nd a - q → ∃ ad' x0, some ad = some ad' ∧ wr.cell? (ad'.add (q + n)) = some (.int .i64 ((x0 : Nat) : Int)) ∧ x0 < 16777216 ∧ Hid (Next wr ad' (nd a) q s p u n (dg (a / 2 ^ (24 * q + s)) n) x0) := by
  intro wr hB n hn
  have hA1 := hA.below (Nat.le_refl _) hB
  obtain ⟨ad', e0, hc⟩ := hA1.at_ (i := q + n) (by omega)
  have hx := dg_lt a (q + n)
  have hdd := down_dg (a := a) (q := q) (s := s) (j := n) hs24
  have hzl := dg_lt (a / 2 ^ (24 * q + s)) n
  have hd1 : ((dg a (q + n) : Nat) : Int) / 2 ^ s = ((dg a (q + n) / 2 ^ s : Nat) : Int) := by rw [Int.natCast_ediv, Int.natCast_pow]; rfl
  refine ⟨ad', dg a (q + n), e0, hc, by rw [BB_eq] at hx; exact hx, fun h => ?_, fun h => ?_⟩
  · obtain ⟨ad2, e2, hc2⟩ := hA1.at_ (i := q + n + 1) h
    have e3 : ad2 = ad' := by rw [e0] at e2; injection e2 with e2; exact e2.symm
    subst e3
    rw [← hp1, ← hu] at hdd
    rw [BB_eq] at hzl
    refine ⟨dg a (q + n + 1), dg a (q + n) / 2 ^ s, dg a (q + n + 1) % p, dg a (q + n + 1) % p * 2 ^ u, hc2, hd1, tmod_nat _ _, ?_, ?_, ?_, ?_⟩
    · have e : ((dg a (q + n + 1) % p : Nat) : Int) * 2 ^ u = ((dg a (q + n + 1) % p * 2 ^ u : Nat) : Int) := by rw [Int.natCast_mul, Int.natCast_pow]; rfl
      rw [e, IntKind.wrap_i64]
      generalize dg a (q + n + 1) % p * 2 ^ u = m at *
      generalize dg a (q + n) / p = d at *
      omega
    · rw [← hp1]
      generalize dg a (q + n + 1) % p * 2 ^ u = m at *
      generalize dg a (q + n) / p = d at *
      rw [IntKind.wrap_i64]; omega
    · rw [IntKind.wrap_i64]; omega
    · rw [← hp1]; omega
  · refine ⟨_, hd1, ?_⟩
    rw [hdd, dg_high (n := a) (i := q + n + 1) (by omega)]; simp
/-- a without its last k bits; whether they are 0. -/
theorem rdown_any (A : Option Addr) (ca a k : Nat) (w : World) (hA : IsL w A (nd a) a) (ma : Mod a) (hk : k < 20000000) :
    Calls Tryd.prog 112 #[.slice A (nd a) ca, .int .i64 k] w (DownOut (a / 2 ^ k) (decide (a % 2 ^ k = 0)) w) := by
  have la := ma.nd
  have hs24 : k % 24 < 24 := Nat.mod_lt _ (by decide)
  have hk1 : k = 24 * (k / 24) + k % 24 := (Nat.div_add_mod k 24).symm
  by_cases hq : k / 24 < nd a
  · obtain ⟨ad, rfl, _⟩ := hA.at_ hq
    obtain ⟨p, hp0, hp1, hpw, hpw2⟩ := two_pow_facts hs24
    have hN := Next_of (q := k / 24) hA hs24 hp1.out rfl la
    have hW : decide (a % 2 ^ k = 0) = (decide (a % BB ^ (k / 24) = 0) && decide (dg a (k / 24) % p = 0)) := by
      have h1 := down_whole (a := a) (q := k / 24) hs24
      rw [← hk1, ← hp1.out] at h1
      rw [h1]
      have := powBB_pos (k / 24)
      generalize a % BB ^ (k / 24) = t
      generalize dg a (k / 24) % p = r
      rw [Bool.eq_iff_iff, Bool.and_eq_true, decide_eq_true_eq, decide_eq_true_eq, decide_eq_true_eq]
      constructor
      · intro h
        have h2 : BB ^ (k / 24) * r = 0 := by omega
        rcases Nat.mul_eq_zero.1 h2 with h3 | h3
        · omega
        · exact ⟨by omega, h3⟩
      · rintro ⟨h2, h3⟩; rw [h2, h3, Nat.mul_zero]
    have hnn := down_nd (a := a) (q := k / 24) (s := k % 24)
    rw [← hk1] at hN hnn
    exact rdown_core ad ca a (k / 24) (k % 24) p (24 - k % 24) (a / 2 ^ k) _ k w hA ma (by omega) (by omega) (by omega) hs24 hq hp0 hpw hpw2 (by omega) (by rw [IntKind.wrap_i64]; omega) hnn hW hN
  · obtain ⟨h1, h2⟩ := down_big (a := a) (q := k / 24) (s := k % 24) (by omega)
    rw [← hk1] at h1 h2
    rw [h1, h2]
    exact rdown_big A ca a (k / 24) (k % 24) k w hA ma (by omega) (by omega) (by omega) hs24 (by omega) (by omega)
end Go.Proofs.YtldmbneckcjonaaDoor
