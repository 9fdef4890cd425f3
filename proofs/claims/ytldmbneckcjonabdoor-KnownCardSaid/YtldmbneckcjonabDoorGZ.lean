/- Several texts in one: Plain: what the roots give. No program in sight; each lemma states its own conditions. · Plain: small facts for the roots. -/
import Derived.Test.YtldmbneckcjonabDoorGC
set_option linter.unusedVariables false
set_option linter.unusedSimpArgs false
namespace Go.Proofs.YtldmbneckcjonabDoor
/-- The whole root of a number. -/
noncomputable def rootN (n : Nat) : Nat := Classical.choose (root_exists n)
theorem rootN_is (n : Nat) : IsRoot n (rootN n) := Classical.choose_spec (root_exists n)
/-- What the square root of a finite number above 0 gives. -/
noncomputable def sqrtV (m a : Nat) : Nat × Nat := roundS m false (rootN (val (exN a) (exE a))) (decide (rootN (val (exN a) (exE a)) * rootN (val (exN a) (exE a)) ≠ val (exN a) (exE a))) (-2500)
/-- The program's way to it. -/
theorem sqrt_soft {m a r k : Nat} {h : Int} (ha : exN a ≠ 0) (hk : 2 * h = expU a - k) (hk1 : 100 ≤ k) (hk3 : k ≤ 254) (hr : IsRoot (sigU a * 2 ^ k) r) : roundS m false r (decide (r * r ≠ sigU a * 2 ^ k)) h = sqrtV m a := by
  obtain ⟨j, _, h1, h3, h5⟩ := norm_rel a
  have hb := exE_bounds a
  have hs := h5 ha
  have hv := val_norm a
  have hR := rootN_is (val (exN a) (exE a))
  unfold sqrtV
  rw [← hv] at hR ⊢
  exact rooted_exact hk (by omega) (by rw [bl_shift (by rw [Ne, sigU_zero]; exact ha)]; omega) hr hR
/-- The reference's way to it. -/
theorem sqrt_ref {m a X k : Nat} {h : Int} (ha : exN a ≠ 0) (hk : 2 * h = exE a - k) (hk1 : 108 ≤ k) (hk3 : k ≤ 254) (hX : IsRoot (exN a * 2 ^ k) X) : roundS m false (mk2 X (true && decide (X * X = exN a * 2 ^ k))) false (h - 1) = sqrtV m a := by
  have hb := exE_bounds a
  have hn := bl_shift (k := k) ha
  have hn0 := bl_pos.2 ha
  rw [marked_root (k := k) hX (by omega), Bool.not_true, Bool.or_false]
  exact rooted_exact hk (by omega) (by omega) hX (rootN_is _)
/-- The square root of every number but the NaNs. -/
@[irreducible] noncomputable def sqrtS (m a : Nat) : Nat × Nat :=
  if kindN a = 0 then (a, 0) else if negU a = true then (9221120237041090560, 16) else if kindN a = 3 then (a, 0) else sqrtV m a
/-- What one through the square root of a finite number above 0 gives. -/
noncomputable def rsqrtV (m a : Nat) : Nat × Nat := roundS m false (rootN (2 ^ (5000 - exE a).toNat / exN a)) (decide (rootN (2 ^ (5000 - exE a).toNat / exN a) * rootN (2 ^ (5000 - exE a).toNat / exN a) ≠ 2 ^ (5000 - exE a).toNat / exN a) || decide (2 ^ (5000 - exE a).toNat % exN a ≠ 0)) (-2500)
theorem rsqrt_ref {m a X k2 : Nat} {h2 : Int} (ha : exN a ≠ 0) (hk2 : 2 * h2 = -k2 - exE a) (hk4 : 240 + bl (exN a) ≤ k2) (hk5 : k2 ≤ 300) (hX : IsRoot (2 ^ k2 / exN a) X) :
    roundS m false (mk2 X (decide (2 ^ k2 % exN a = 0) && decide (X * X = 2 ^ k2 / exN a))) false (h2 - 1) = rsqrtV m a := by
  have hb := exE_bounds a
  have hap : 0 < exN a := by omega
  unfold rsqrtV
  obtain ⟨P, hP⟩ : ∃ P : Nat, (5000 - exE a).toNat = P := ⟨_, rfl⟩
  rw [hP]
  have hR := rootN_is (2 ^ P / exN a)
  obtain ⟨i, hi⟩ : ∃ i : Nat, P = k2 + 2 * i := ⟨(P - k2) / 2, by omega⟩
  have f1 := Cuts.frac (X := 1) (Y := exN a) hap k2 (2 * i)
  rw [Nat.one_mul, Nat.one_mul, ← hi] at f1
  have g1 := bl_frac (X := 1) (Y := exN a) (p := k2) (by decide) hap
  have b1 : bl 1 = 1 := bl_eq (k := 0) (by decide) (by decide)
  rw [Nat.one_mul, b1] at g1
  have r1 := root_same (m := m) (ng := false) (e := -2500) f1 hR hX (by omega)
  rw [marked_root (k := k2) hX (by omega)]
  have hnot : (!decide (2 ^ k2 % exN a = 0)) = decide (2 ^ k2 % exN a ≠ 0) := by rw [decide_not]
  rw [hnot, show h2 = -2500 + (i : Int) from by omega, r1]
theorem rsqrt_soft {m a r k : Nat} {h : Int} (ha : exN a ≠ 0) (hk : 2 * h = -252 - expU a - k) (hk1 : k ≤ 254) (hr : IsRoot (2 ^ 252 / sigU a * 2 ^ k) r) :
    roundS m false r (decide (r * r ≠ 2 ^ 252 / sigU a * 2 ^ k) || decide (2 ^ 252 % sigU a ≠ 0)) h = rsqrtV m a := by
  have hb := exE_bounds a
  have hn := exN_bl a
  have hn0 := bl_pos.2 ha
  obtain ⟨k2, h2, e1, e2⟩ : ∃ (k2 : Nat) (h2 : Int), 2 * h2 = -k2 - exE a ∧ (k2 = 240 + bl (exN a) ∨ k2 = 241 + bl (exN a)) := by
    rcases (show (240 + (bl (exN a) : Int) + exE a) % 2 = 0 ∨ (240 + (bl (exN a) : Int) + exE a) % 2 = 1 by omega) with h | h
    · exact ⟨240 + bl (exN a), -(240 + (bl (exN a) : Int) + exE a) / 2, by omega, .inl rfl⟩
    · exact ⟨241 + bl (exN a), -(241 + (bl (exN a) : Int) + exE a) / 2, by omega, .inr rfl⟩
  have hX := rootN_is (2 ^ k2 / exN a)
  rw [rsqrt_same ha hk hk1 hr e1 (by omega) (by omega) hX]
  exact rsqrt_ref ha e1 (by omega) (by omega) hX
/-- One through the square root of every number but the NaNs. -/
@[irreducible] noncomputable def rsqrtS (m a : Nat) : Nat × Nat :=
  if kindN a = 0 then (signN (negU a) + 9218868437227405312, 8) else if negU a = true then (9221120237041090560, 16) else if kindN a = 3 then (0, 0) else rsqrtV m a
theorem cb_exist (n : Nat) : ∃ r, IsCb n r := by
  induction n with
  | zero => exact ⟨0, Nat.le_refl _, by decide⟩
  | succ n ih =>
    obtain ⟨r, h1, h2⟩ := ih
    by_cases h : (r + 1) * ((r + 1) * (r + 1)) ≤ n + 1
    · refine ⟨r + 1, h, ?_⟩
      have h3 := Nat.mul_lt_mul_of_lt_of_lt (show r + 1 < r + 1 + 1 by omega) (show r + 1 < r + 1 + 1 by omega)
      have h4 := Nat.mul_lt_mul_of_lt_of_lt (show r + 1 < r + 1 + 1 by omega) h3
      omega
    · exact ⟨r, by omega, by omega⟩
theorem cb_uniq {n r s : Nat} (h1 : IsCb n r) (h2 : IsCb n s) : r = s := Nat.le_antisymm (cbLt (Nat.lt_of_le_of_lt h1.1 h2.2)) (cbLt (Nat.lt_of_le_of_lt h2.1 h1.2))
/-- The whole cube root of a number. -/
noncomputable def cbN (n : Nat) : Nat := Classical.choose (cb_exist n)
theorem cbN_is (n : Nat) : IsCb n (cbN n) := Classical.choose_spec (cb_exist n)
/-- How far the reference lifts. -/
def cbK (a : Nat) : Nat := 190 + ((exE a - 190) % 3).toNat
theorem cbK_mod (a : Nat) : (exE a - cbK a) % 3 = 0 ∧ 190 ≤ cbK a ∧ cbK a ≤ 192 := by unfold cbK; omega
noncomputable def cbrtV (m a : Nat) : Nat × Nat := roundS m (negU a) (mk2 (cbN (exN a * 2 ^ cbK a)) (decide (cbN (exN a * 2 ^ cbK a) * (cbN (exN a * 2 ^ cbK a) * cbN (exN a * 2 ^ cbK a)) = exN a * 2 ^ cbK a))) false ((exE a - cbK a) / 3 - 1)
theorem cbrt_ref {m a X : Nat} (hX : IsCb (exN a * 2 ^ cbK a) X) : roundS m (negU a) (mk2 X (decide (X * (X * X) = exN a * 2 ^ cbK a))) false ((exE a - cbK a) / 3 - 1) = cbrtV m a := by
  obtain rfl := cb_uniq hX (cbN_is _)
  rfl
theorem cbrt_soft {m a r k : Nat} {h : Int} (ha : exN a ≠ 0) (hk : 3 * h = expU a - k) (hk1 : 128 ≤ k) (hr : IsCb (sigU a * 2 ^ k) r) : roundS m (negU a) r (decide (r * (r * r) ≠ sigU a * 2 ^ k)) h = cbrtV m a := by
  obtain ⟨h1, h2, h3⟩ := cbK_mod a
  exact cbrt_same ha hk hk1 hr (by omega) h2 (cbN_is _)
/-- The cube root of every number but the NaNs. -/
@[irreducible] noncomputable def cbrtS (m a : Nat) : Nat × Nat := if kindN a = 3 ∨ kindN a = 0 then (a, 0) else cbrtV m a
end Go.Proofs.YtldmbneckcjonabDoor
namespace Go.Proofs.YtldmbneckcjonabDoor
open Go.RowKit
theorem tm_true {x n : Int} (h : x % n ≠ 0) : (x.tmod n != 0) = true := by
  rw [bne_iff_ne]; intro h2; exact h (Int.emod_eq_zero_of_dvd (Int.dvd_of_tmod_eq_zero h2))
theorem tm_false {x n : Int} (h : x % n = 0) : (x.tmod n != 0) = false := by
  rw [Int.tmod_eq_zero_of_dvd (Int.dvd_of_emod_eq_zero h)]; rfl
theorem td_even {x n : Int} (h : x % n = 0) : x.tdiv n = x / n := Int.tdiv_eq_ediv_of_dvd (Int.dvd_of_emod_eq_zero h)
theorem wrap_in {x : Int} (h1 : -1000000 ≤ x) (h2 : x ≤ 1000000) : wrap64 x = x := by unfold wrap64; omega
theorem wrapI_in {x : Int} (h1 : -1000000 ≤ x) (h2 : x ≤ 1000000) : IntKind.i64.wrap x = x := by rw [IntKind.wrap_i64]; omega
theorem neg_div (a : Nat) : ((a : Int) / 9223372036854775808 == 1) = negU a := by
  unfold negU; by_cases h : a / 9223372036854775808 = 1
  · rw [decide_eq_true h, beq_iff_eq]; omega
  · rw [decide_eq_false h, beq_eq_false_iff_ne]; omega
theorem kind0_sign {a : Nat} (ua : U64 a) (h : kindN a = 0) : a = signN (negU a) := by
  unfold U64 at ua
  unfold kindN at h
  have h2 : a % 9223372036854775808 = 0 := by (repeat' split at h) <;> omega
  unfold signN negU
  by_cases hq : a / 9223372036854775808 = 1
  · rw [decide_eq_true hq]; show a = 9223372036854775808; omega
  · rw [decide_eq_false hq]; show a = 0; omega
theorem mk2_ne {X : Nat} {w : Bool} (h : X ≠ 0) : mk2 X w ≠ 0 := by unfold mk2; omega
theorem mk2_bl {X n : Nat} {w : Bool} (h : X ≤ n) : bl (mk2 X w) ≤ bl n + 1 := by
  have h1 : n < 2 ^ bl n := bl_le.1 (Nat.le_refl _)
  refine bl_le.2 ?_
  rw [Nat.pow_succ]
  unfold mk2
  cases w <;> simp <;> omega
theorem root_pos {n X : Nat} (h : IsRoot n X) (hn : n ≠ 0) : X ≠ 0 := by
  intro h0; subst h0; have := h.2; omega
theorem root_le {n X : Nat} (h : IsRoot n X) : X ≤ n := Nat.le_trans (Nat.le_mul_self X) h.1
theorem cb_pos {n X : Nat} (h : IsCb n X) (hn : n ≠ 0) : X ≠ 0 := by
  intro h0; subst h0; have := h.2; omega
theorem cb_le {n X : Nat} (h : IsCb n X) : X ≤ n := by
  refine Nat.le_trans ?_ h.1
  by_cases h0 : X = 0
  · omega
  · exact Nat.le_trans (Nat.le_mul_self X) (Nat.mul_le_mul (Nat.le_refl X) (Nat.le_mul_self X))
end Go.Proofs.YtldmbneckcjonabDoor
