/- Several texts in one: wide.cubed and Cube: the greatest number below 2^62 whose cube is not above a (a below 2^186). · wide.Cube: the greatest number below 2^62 whose cube is not above a, and whether something is left (a below 2^186). · The square root, two bits a round: plain arithmetic. · wide.Root: the greatest number whose square is not above a, and whether something is left. The argument is below 2^256. · soft's number.rooted. · soft's number.rooted, whole. · soft.sqrt: the special cases. · soft.rsqrt, soft.cbrt: the finite numbers. · soft.sqrt, soft.rsqrt, soft.cbrt, whole. -/
import Derived.Deep.RegionHeld3
import Derived.Lib.Hide
import Derived.Deep.RegionWith
import Derived.Deep.DeepCutAuto
import Derived.Test.YtldmbneckcjonabDoorGA
import Derived.Test.YtldmbneckcjonabDoorGB
import Derived.Test.YtldmbneckcjonabDoorGQ
import Derived.Test.YtldmbneckcjonabDoorGZ
import Derived.Test.YtldmbneckcjonabDoorGC
import Derived.Test.YtldmbneckcjonabDoorGD
import Derived.Test.YtldmbneckcjonabDoorGN
set_option linter.unusedVariables false
set_option linter.unusedSimpArgs false
namespace Go.Proofs.YtldmbneckcjonabDoor
open Go.RowKit
/-- Below 2^62. -/
def U62 (x : Nat) : Prop := x < 4611686018427387904
theorem U62.out {x : Nat} (h : U62 x) : x < 4611686018427387904 := h
theorem U62.word {x : Nat} (h : U62 x) : IsW (x : Int) := by have := h.out; unfold IsW; omega
@[irreducible] def sq (x : Nat) : Nat := x * x
@[irreducible] def cb (x : Nat) : Nat := x * x * x
theorem sq_lt {x : Nat} (h : U62 x) : sq x < 2 ^ 124 := by
  have h := h.out
  unfold sq
  have : x * x ≤ 4611686018427387903 * 4611686018427387903 := Nat.mul_le_mul (by omega) (by omega)
  omega
theorem cb_lt {x : Nat} (h : U62 x) : cb x < 2 ^ 186 := by
  have h1 := sq_lt h
  have h := h.out
  unfold sq at h1; unfold cb
  have : x * x * x ≤ (2 ^ 124 - 1) * 4611686018427387903 := Nat.mul_le_mul (by omega) (by omega)
  omega
theorem cb_u256 {x : Nat} (h : U62 x) : U256 (cb x) := by have := cb_lt h; unfold U256; omega
theorem Mul_sq {x : Nat} (h : U62 x) (w : World) :
    Calls Tryd.prog 54 #[.agg #[.int .u64 x, .int .u64 0], .agg #[.int .u64 x, .int .u64 0]] w fun e w' => e = .returned (W4 (sq x)) ∧ Below w.heap.size w w' := by
  have := Mul_any h.word isW_zero h.word isW_zero w
  have e : (((x : Int) + 18446744073709551616 * 0) * ((x : Int) + 18446744073709551616 * 0)).toNat = sq x := by
    unfold sq; rw [Int.mul_zero, Int.add_zero, ← Int.natCast_mul, Int.toNat_natCast]
  rw [e] at this
  exact this
theorem Mul_cb {x : Nat} (h : U62 x) (w : World) :
    Calls Tryd.prog 54 #[.agg #[.int .u64 (wd 0 (sq x)), .int .u64 (wd 1 (sq x))], .agg #[.int .u64 x, .int .u64 0]] w fun e w' => e = .returned (W4 (cb x)) ∧ Below w.heap.size w w' := by
  have := Mul_any (isW_wd 0 (sq x)) (isW_wd 1 (sq x)) h.word isW_zero w
  have e : (((wd 0 (sq x) : Int) + 18446744073709551616 * wd 1 (sq x)) * ((x : Int) + 18446744073709551616 * 0)).toNat = cb x := by
    have h1 := sq_lt h
    have h2 : (wd 0 (sq x) : Int) + 18446744073709551616 * wd 1 (sq x) = (sq x : Nat) := by rw [wd0, wd1]; omega
    rw [h2, Int.mul_zero, Int.add_zero, ← Int.natCast_mul, Int.toNat_natCast]; unfold sq cb; rfl
  rw [e] at this
  exact this
set_option maxRecDepth 100000 in
set_option maxHeartbeats 1000000 in
theorem cubed_any (x : Nat) (h : U62 x) (w : World) :
    Calls Tryd.prog 62 #[.int .u64 x] w fun e w' => e = .returned (W4 (cb x)) ∧ Below w.heap.size w w' := by
  go_enter Tryd.func62, Tryd.ntmps62
  go_wp2_with fail
  refine (Mul_sq h _).mono ?_
  rintro e w1 ⟨rfl, hb1⟩; have hz_w1 := (hb1).size; (try simp at hz_w1); have hl_w1_0 : w.heap.size < w1.heap.size := (by omega); have hk_w1_0_0 : w1.cell? ⟨w.heap.size, 0, none⟩ = some (.int .u64 0) := (by rw [hb1.cell (p := ⟨w.heap.size, 0, none⟩) (by first | omega | (simp; done) | (simp; omega))]; go_simp; done); have hg_w1_0_0 : w1.frozen? ⟨w.heap.size, 0, none⟩ = false := (by rw [hb1.frozen (p := ⟨w.heap.size, 0, none⟩) (by first | omega | (simp; done) | (simp; omega))]; go_simp; done); have hk_w1_0_1 : w1.cell? ⟨w.heap.size, 1, none⟩ = some (.int .u64 0) := (by rw [hb1.cell (p := ⟨w.heap.size, 1, none⟩) (by first | omega | (simp; done) | (simp; omega))]; go_simp; done); have hg_w1_0_1 : w1.frozen? ⟨w.heap.size, 1, none⟩ = false := (by rw [hb1.frozen (p := ⟨w.heap.size, 1, none⟩) (by first | omega | (simp; done) | (simp; omega))]; go_simp; done); have hk_w1_0_2 : w1.cell? ⟨w.heap.size, 2, none⟩ = some (.int .u64 0) := (by rw [hb1.cell (p := ⟨w.heap.size, 2, none⟩) (by first | omega | (simp; done) | (simp; omega))]; go_simp; done); have hg_w1_0_2 : w1.frozen? ⟨w.heap.size, 2, none⟩ = false := (by rw [hb1.frozen (p := ⟨w.heap.size, 2, none⟩) (by first | omega | (simp; done) | (simp; omega))]; go_simp; done); have hk_w1_0_3 : w1.cell? ⟨w.heap.size, 3, none⟩ = some (.int .u64 0) := (by rw [hb1.cell (p := ⟨w.heap.size, 3, none⟩) (by first | omega | (simp; done) | (simp; omega))]; go_simp; done); have hg_w1_0_3 : w1.frozen? ⟨w.heap.size, 3, none⟩ = false := (by rw [hb1.frozen (p := ⟨w.heap.size, 3, none⟩) (by first | omega | (simp; done) | (simp; omega))]; go_simp; done)
  go_wp2_with fail
  refine (Mul_cb h _).mono ?_
  rintro e w2 ⟨rfl, hb2⟩; have hz_w2 := (hb2).size; (try simp at hz_w2); have hl_w2_0 : w.heap.size < w2.heap.size := (by omega); have hk_w2_0_0 : w2.cell? ⟨w.heap.size, 0, none⟩ = some (.int .u64 0) := (by rw [hb2.cell (p := ⟨w.heap.size, 0, none⟩) (by first | omega | (simp; done) | (simp; omega))]; go_simp; done); have hg_w2_0_0 : w2.frozen? ⟨w.heap.size, 0, none⟩ = false := (by rw [hb2.frozen (p := ⟨w.heap.size, 0, none⟩) (by first | omega | (simp; done) | (simp; omega))]; go_simp; done); have hk_w2_0_1 : w2.cell? ⟨w.heap.size, 1, none⟩ = some (.int .u64 0) := (by rw [hb2.cell (p := ⟨w.heap.size, 1, none⟩) (by first | omega | (simp; done) | (simp; omega))]; go_simp; done); have hg_w2_0_1 : w2.frozen? ⟨w.heap.size, 1, none⟩ = false := (by rw [hb2.frozen (p := ⟨w.heap.size, 1, none⟩) (by first | omega | (simp; done) | (simp; omega))]; go_simp; done); have hk_w2_0_2 : w2.cell? ⟨w.heap.size, 2, none⟩ = some (.int .u64 0) := (by rw [hb2.cell (p := ⟨w.heap.size, 2, none⟩) (by first | omega | (simp; done) | (simp; omega))]; go_simp; done); have hg_w2_0_2 : w2.frozen? ⟨w.heap.size, 2, none⟩ = false := (by rw [hb2.frozen (p := ⟨w.heap.size, 2, none⟩) (by first | omega | (simp; done) | (simp; omega))]; go_simp; done); have hk_w2_0_3 : w2.cell? ⟨w.heap.size, 3, none⟩ = some (.int .u64 0) := (by rw [hb2.cell (p := ⟨w.heap.size, 3, none⟩) (by first | omega | (simp; done) | (simp; omega))]; go_simp; done); have hg_w2_0_3 : w2.frozen? ⟨w.heap.size, 3, none⟩ = false := (by rw [hb2.frozen (p := ⟨w.heap.size, 3, none⟩) (by first | omega | (simp; done) | (simp; omega))]; go_simp; done)
  go_wp2
  refine bodyPost_ret (v := .agg #[_, _, _, _]) (by simp [results, Tryd.results62, go_sem, *]) rfl ⟨rfl, ?_⟩
  repeat' (first | with_reducible exact Below.refl _ _ | with_reducible assumption | with_reducible refine Below.drew ?_ | with_reducible refine bdrewN ?_ _ | with_reducible refine Below.alloc ?_ ?_ _ | with_reducible refine Below.setCell ?_ ?_ _ | with_reducible refine Below.trans ?_ (Below.mono (by assumption) ?_) | omega | (simp; done) | (simp; omega))
end Go.Proofs.YtldmbneckcjonabDoor
namespace Go.Proofs.YtldmbneckcjonabDoor
open Go.RowKit
/-- What holds behind the rounds down to bit k + 1. -/
def CubeInv (a x : Nat) (k : Int) : Prop := x % 2 ^ (k + 1).toNat = 0 ∧ cb x ≤ a ∧ a < cb (x + 2 ^ (k + 1).toNat) ∧ x + 2 ^ (k + 1).toNat ≤ 4611686018427387904
theorem cubeInv_start {a : Nat} (ha : a < 2 ^ 186) : CubeInv a 0 61 := by
  refine ⟨rfl, by unfold cb; omega, ?_, by decide⟩
  rw [show (0 : Nat) + 2 ^ ((61 : Int) + 1).toNat = 4611686018427387904 from rfl]
  unfold cb; omega
theorem pow_two_mul (j : Nat) : 2 ^ (j + 1) = 2 * 2 ^ j := by rw [Nat.pow_succ, Nat.mul_comm]
theorem cubeInv_step {a x j : Nat} (h : CubeInv a x j) :
    (a < cb (x + 2 ^ j) → CubeInv a x ((j : Int) - 1)) ∧ (¬ a < cb (x + 2 ^ j) → CubeInv a (x + 2 ^ j) ((j : Int) - 1)) ∧ x + 2 ^ j < 4611686018427387904 ∧ x % 2 ^ (j + 1) = 0 := by
  obtain ⟨h1, h2, h3, h4⟩ := h
  have e1 : ((j : Int) + 1).toNat = j + 1 := by omega
  have e2 : ((j : Int) - 1 + 1).toNat = j := by omega
  unfold CubeInv
  rw [e2]
  rw [e1] at h1 h3 h4
  have hp := pow_two_mul j
  have hp0 := Nat.two_pow_pos j
  have hd : x % 2 ^ j = 0 := Nat.mod_eq_zero_of_dvd (Nat.dvd_trans (Nat.pow_dvd_pow 2 (Nat.le_succ j)) (Nat.dvd_of_mod_eq_zero h1))
  have e3 : x + 2 ^ j + 2 ^ j = x + 2 ^ (j + 1) := by omega
  exact ⟨fun hc => ⟨hd, h2, hc, by omega⟩, fun hc => ⟨by rw [Nat.add_mod_right]; exact hd, by omega, by rw [e3]; exact h3, by omega⟩, by omega, h1⟩
theorem cubeInv_end {a x : Nat} (h : CubeInv a x (-1)) : cb x ≤ a ∧ a < cb (x + 1) ∧ U62 x := by
  obtain ⟨_, h2, h3, h4⟩ := h
  have e : (2 : Nat) ^ ((-1 : Int) + 1).toNat = 1 := rfl
  rw [e] at h3 h4
  exact ⟨h2, h3, by unfold U62; omega⟩
theorem ret_ub {a a' : Int} {b b' : Bool} (h1 : a = a') (h2 : b = b') : Ending.returned (.tuple #[.int .u64 a, .bool b]) = .returned (.tuple #[.int .u64 a', .bool b']) := by rw [h1, h2]
/-- What Cube gives. -/
def CubeOut (a : Nat) (w0 : World) (e : Ending) (w : World) : Prop := ∃ x : Nat, e = .returned (.tuple #[.int .u64 x, .bool (decide (cb x ≠ a))]) ∧ cb x ≤ a ∧ a < cb (x + 1) ∧ U62 x ∧ Below w0.heap.size w0 w
attribute [local go_sem] eqW_run cb_u256
set_option maxRecDepth 100000 in
set_option maxHeartbeats 2000000 in
theorem Cube_any (a : Nat) (ha : U256 a) (ha2 : Hid (a < 2 ^ 186)) (w : World) :
    Calls Tryd.prog 50 #[W4 a] w (CubeOut a w) := by
  go_enter Tryd.func50, Tryd.ntmps50
  go_wp2
  go_loopw [4, 5, 6] (fun x i _ wr => ∃ (k : Int) (n : Nat), x = .int .u64 n ∧ i = .int .i64 k ∧ -1 ≤ k ∧ k ≤ 61 ∧ Hid (CubeInv a n k) ∧ Hid (C4 wr w.heap.size a) ∧ Below w.heap.size w wr ∧ w.heap.size < wr.heap.size) (fun _ i _ _ => (intOf i + 1).toNat)
  case atStart =>
    refine ⟨61, 0, rfl, rfl, by omega, by omega, cubeInv_start ha2.out, ?_, ?_, by simp⟩
    · refine ⟨⟨?_, ?_, ?_, ?_⟩, ?_, ?_, ?_, ?_⟩ <;> go_simp
    · repeat' (first | with_reducible exact Below.refl _ _ | with_reducible assumption | with_reducible refine Below.drew ?_ | with_reducible refine bdrewN ?_ _ | with_reducible refine Below.alloc ?_ ?_ _ | with_reducible refine Below.setCell ?_ ?_ _ | with_reducible refine Below.trans ?_ (Below.mono (by assumption) ?_) | omega | (simp; done) | (simp; omega))
  case round =>
    obtain ⟨k, n, rfl, rfl, hk0, hk1, hI, hC, hB, hz⟩ := hrel
    by_cases hk : 0 ≤ k
    · obtain ⟨j, rfl⟩ := Int.eq_ofNat_of_zero_le hk
      obtain ⟨hs1, hs2, hs3, hs4⟩ := cubeInv_step hI.out
      have hs1 := Lib.hid hs1
      have hs2 := Lib.hid hs2
      have hy : U62 (n + 2 ^ j) := hs3
      have hor : bits .or .u64 (n : Int) (IntKind.u64.wrap (2 ^ j)) = ((n + 2 ^ j : Nat) : Int) := by
        have h2 : 2 ^ j < 4611686018427387904 := by omega
        have e2 : (2 : Int) ^ j = ((2 ^ j : Nat) : Int) := by simp
        rw [e2, show IntKind.u64.wrap ((2 ^ j : Nat) : Int) = ((2 ^ j : Nat) : Int) from by rw [IntKind.wrap_u64]; omega]
        exact or_pow hs4 (by omega)
      clear hs3 hs4
      generalize hyy : n + 2 ^ j = y at *
      obtain ⟨⟨c0, c1, c2, c3⟩, f0, f1, f2, f3⟩ := hC.out
      by_cases hlt : a < cb y
      · go_wp2
        go_region_held3 (fun w' => w'.cell? ⟨w.heap.size, 0, none⟩ = some (.int .u64 (wd 0 a)) ∧ w'.cell? ⟨w.heap.size, 1, none⟩ = some (.int .u64 (wd 1 a)) ∧ w'.cell? ⟨w.heap.size, 2, none⟩ = some (.int .u64 (wd 2 a)) ∧ w'.cell? ⟨w.heap.size, 3, none⟩ = some (.int .u64 (wd 3 a)))
        (first
          | (refine ⟨?_, ?_, ?_, ?_⟩ <;> (go_simp; done))
          | go_keep
          | (refine ⟨?_, ?_, ?_, ?_⟩ <;> (rw [hb2.cell (by first | omega | (simp; done) | (simp; omega))]; go_simp; done))
          | (refine ⟨?_, ?_, ?_, ?_⟩ <;> (rw [hb1.cell (by first | omega | (simp; done) | (simp; omega))]; go_simp; done)))
        (first
          | (go_at_call 62; refine (cubed_any _ hy _).mono ?_; rintro e w1 ⟨rfl, hb1⟩; have hz1 := hb1.size; (try simp at hz1))
          | (go_at_call 61; refine (Less_any _ _ ha (cb_u256 hy) _).mono ?_; rintro e w2 ⟨rfl, hb2⟩; have hz2 := hb2.size; (try simp at hz2)))
        go_wp2
        have hb3 : Below wr.heap.size wr w2 := (Below.refl _ _).drew.trans (hb1.trans (hb2.mono hb1.size))
        go_roundw
        case rel => exact ⟨(j : Int) - 1, n, rfl, by go_num, by omega, by omega, hs1.out hlt, K4.below hC.out (by exact hb3) hz, Below.trans hB (Below.mono hb3 (by exact hB.size)), Nat.lt_of_lt_of_le hz hb3.size⟩
        case measure => simp only [intOf]; omega
      · go_wp2
        go_region_held3 (fun w' => w'.cell? ⟨w.heap.size, 0, none⟩ = some (.int .u64 (wd 0 a)) ∧ w'.cell? ⟨w.heap.size, 1, none⟩ = some (.int .u64 (wd 1 a)) ∧ w'.cell? ⟨w.heap.size, 2, none⟩ = some (.int .u64 (wd 2 a)) ∧ w'.cell? ⟨w.heap.size, 3, none⟩ = some (.int .u64 (wd 3 a)))
        (first
          | (refine ⟨?_, ?_, ?_, ?_⟩ <;> (go_simp; done))
          | go_keep
          | (refine ⟨?_, ?_, ?_, ?_⟩ <;> (rw [hb2.cell (by first | omega | (simp; done) | (simp; omega))]; go_simp; done))
          | (refine ⟨?_, ?_, ?_, ?_⟩ <;> (rw [hb1.cell (by first | omega | (simp; done) | (simp; omega))]; go_simp; done)))
        (first
          | (go_at_call 62; refine (cubed_any _ hy _).mono ?_; rintro e w1 ⟨rfl, hb1⟩; have hz1 := hb1.size; (try simp at hz1))
          | (go_at_call 61; refine (Less_any _ _ ha (cb_u256 hy) _).mono ?_; rintro e w2 ⟨rfl, hb2⟩; have hz2 := hb2.size; (try simp at hz2)))
        go_wp2
        have hb3 : Below wr.heap.size wr w2 := (Below.refl _ _).drew.trans (hb1.trans (hb2.mono hb1.size))
        go_roundw
        case rel => exact ⟨(j : Int) - 1, y, rfl, by go_num, by omega, by omega, hs2.out hlt, K4.below hC.out (by exact hb3) hz, Below.trans hB (Below.mono hb3 (by exact hB.size)), Nat.lt_of_lt_of_le hz hb3.size⟩
        case measure => simp only [intOf]; omega
    · obtain rfl : k = -1 := by omega
      obtain ⟨he1, he2, he3⟩ := cubeInv_end hI.out
      have he2 := Lib.hid he2
      obtain ⟨⟨c0, c1, c2, c3⟩, f0, f1, f2, f3⟩ := hC.out
      go_wp2
      go_region_held3 (fun w' => w'.cell? ⟨w.heap.size, 0, none⟩ = some (.int .u64 (wd 0 a)) ∧ w'.cell? ⟨w.heap.size, 1, none⟩ = some (.int .u64 (wd 1 a)) ∧ w'.cell? ⟨w.heap.size, 2, none⟩ = some (.int .u64 (wd 2 a)) ∧ w'.cell? ⟨w.heap.size, 3, none⟩ = some (.int .u64 (wd 3 a)))
        (first
          | (refine ⟨?_, ?_, ?_, ?_⟩ <;> (go_simp; done))
          | go_keep
          | (refine ⟨?_, ?_, ?_, ?_⟩ <;> (rw [hb2.cell (by first | omega | (simp; done) | (simp; omega))]; go_simp; done))
          | (refine ⟨?_, ?_, ?_, ?_⟩ <;> (rw [hb1.cell (by first | omega | (simp; done) | (simp; omega))]; go_simp; done)))
        (first
          | (go_at_call 62; refine (cubed_any _ he3 _).mono ?_; rintro e w1 ⟨rfl, hb1⟩; have hz1 := hb1.size; (try simp at hz1))
          )
      go_wp2
      go_ret2
      refine ⟨n, ?_, he1, he2.out, he3, ?_⟩
      · exact ret_ub rfl (by by_cases h : cb n = a <;> simp [h])
      · have hb3 : Below wr.heap.size wr w1 := (Below.refl _ _).drew.trans hb1
        exact hB.trans (hb3.mono hB.size)
end Go.Proofs.YtldmbneckcjonabDoor
namespace Go.Proofs.YtldmbneckcjonabDoor
/-- What holds behind the rounds down to bit k + 2: x is the root of a's bits from there up, r what is left of them. -/
def RootInv (a x r : Nat) (k : Int) : Prop := x * x + r = a / 2 ^ (k + 2).toNat ∧ r ≤ 2 * x
/-- The two bits that come down, and the numbers of a round. -/
def twoBits (a j : Nat) : Nat := 2 * bitN a (j + 1) + bitN a j
theorem twoBits_lt (a j : Nat) : twoBits a j < 4 := by
  have := bitN_le a (j + 1); have := bitN_le a j; unfold twoBits; omega
theorem two_down (a j : Nat) : a / 2 ^ j = 4 * (a / 2 ^ (j + 2)) + twoBits a j := by
  unfold twoBits bitN
  have e1 : a / 2 ^ (j + 1) = a / 2 ^ j / 2 := by rw [Nat.pow_succ, Nat.div_div_eq_div_mul]
  have e2 : a / 2 ^ (j + 2) = a / 2 ^ j / 4 := by rw [Nat.pow_add, Nat.div_div_eq_div_mul]
  rw [e1, e2]; omega
theorem rootInv_start {a : Nat} (ha : U256 a) : RootInv a 0 0 254 := by
  unfold RootInv
  have : a / 2 ^ ((254 : Int) + 2).toNat = 0 := Nat.div_eq_of_lt ha
  rw [this]; exact ⟨rfl, Nat.le_refl _⟩
theorem root_bound {a x r : Nat} {j : Nat} (ha : U256 a) (h : RootInv a x r j) : x < 2 ^ 127 ∧ r < 2 ^ 128 := by
  obtain ⟨h1, h2⟩ := h
  have e : ((j : Int) + 2).toNat = j + 2 := by omega
  rw [e] at h1
  have hlt : a / 2 ^ (j + 2) < 2 ^ 254 := by
    rw [Nat.div_lt_iff_lt_mul (Nat.two_pow_pos _), ← Nat.pow_add]
    exact Nat.lt_of_lt_of_le ha.out (Nat.pow_le_pow_right (by decide) (by omega))
  have hx : x < 2 ^ 127 := by
    rcases Nat.lt_or_ge x (2 ^ 127) with h | h
    · exact h
    · have := Nat.mul_le_mul h h; omega
  exact ⟨hx, by omega⟩
theorem root_step {a x r : Nat} {j : Nat} (h : RootInv a x r j) :
    (r * 4 + twoBits a j < x * 4 + 1 → RootInv a (x * 2) (r * 4 + twoBits a j) ((j : Int) - 2)) ∧
    (¬ r * 4 + twoBits a j < x * 4 + 1 → RootInv a (x * 2 + 1) (r * 4 + twoBits a j - (x * 4 + 1)) ((j : Int) - 2)) := by
  obtain ⟨h1, h2⟩ := h
  have e : ((j : Int) + 2).toNat = j + 2 := by omega
  have e2 : ((j : Int) - 2 + 2).toNat = j := by omega
  rw [e] at h1
  unfold RootInv
  rw [e2, two_down a j, ← h1]
  have hb := twoBits_lt a j
  have p1 : x * 2 * (x * 2) = 4 * (x * x) := by rw [Nat.mul_assoc, Nat.mul_left_comm 2 x 2, Nat.mul_comm 2 2, ← Nat.mul_assoc, Nat.mul_comm]
  have p2 : (x * 2 + 1) * (x * 2 + 1) = 4 * (x * x) + 4 * x + 1 := by
    rw [Nat.add_mul, Nat.mul_add, p1]; omega
  rw [p1, p2]
  generalize x * x = s at *
  exact ⟨fun hc => ⟨by omega, by omega⟩, fun hc => ⟨by omega, by omega⟩⟩
theorem root_end {a x r : Nat} (h : RootInv a x r (-2)) : x * x + r = a ∧ r ≤ 2 * x := by
  obtain ⟨h1, h2⟩ := h
  exact ⟨by simpa using h1, h2⟩
theorem root_numbers {a x r j : Nat} (ha : U256 a) (h : RootInv a x r j) :
    shlN r 2 = r * 4 ∧ shlN x 2 = x * 4 ∧ shlN x 1 = x * 2 ∧ U256 r ∧ U256 x ∧ U256 (r * 4 + twoBits a j) ∧ U256 (x * 4 + 1) ∧ U256 (x * 2 + 1) := by
  obtain ⟨hx, hr⟩ := root_bound ha h
  have hb := twoBits_lt a j
  refine ⟨shlN_eq ?_, shlN_eq ?_, shlN_eq ?_, ?_, ?_, ?_, ?_, ?_⟩ <;> unfold U256 <;> omega
/-- The two bits, set into the lowest word. -/
theorem or_bits (a j : Nat) : bits .or .u64 (IntKind.u64.wrap ((bitN a (j + 1) : Int) * 2)) (bitN a j : Int) = (twoBits a j : Nat) := by
  have h1 := bitN_le a (j + 1)
  have h2 := bitN_le a j
  rw [show IntKind.u64.wrap ((bitN a (j + 1) : Int) * 2) = ((bitN a (j + 1) * 2 : Nat) : Int) from by rw [IntKind.wrap_u64]; omega]
  rw [u64_or_nat _ _ (by omega) (by omega), nat_join 1 _ _ (by omega) (by omega)]
  unfold twoBits; omega
end Go.Proofs.YtldmbneckcjonabDoor
namespace Go.Proofs.YtldmbneckcjonabDoor
open Go.RowKit
/-- What Root gives. -/
def RootOut (a : Nat) (w0 : World) (e : Ending) (w : World) : Prop := ∃ x r : Nat, e = .returned (.tuple #[.agg #[.int .u64 (wd 0 x), .int .u64 (wd 1 x)], .bool (decide (r ≠ 0))]) ∧ x * x + r = a ∧ r ≤ 2 * x ∧ Below w0.heap.size w0 w
attribute [local go_sem] eqW_run eqW0_run
set_option maxRecDepth 100000 in
set_option maxHeartbeats 8000000 in
theorem Root_any (a : Nat) (ha : U256 a) (w : World) :
    Calls Tryd.prog 60 #[W4 a] w (RootOut a w) := by
  go_enter Tryd.func60, Tryd.ntmps60
  go_wp2
  go_loopw [6, 7] (fun i _ wr => ∃ (k : Int) (x r : Nat), i = .int .i64 k ∧ -2 ≤ k ∧ k ≤ 254 ∧ k % 2 = 0 ∧ Hid (RootInv a x r k) ∧ Hid (C4 wr w.heap.size a) ∧ Hid (C4 wr (w.heap.size + 1 + 1) x) ∧ Hid (C4 wr (w.heap.size + 1 + 1 + 1) r) ∧
      Hid (wr.cell? ⟨w.heap.size + 1, 0, none⟩ = some (.int .u64 0) ∧ wr.cell? ⟨w.heap.size + 1, 1, none⟩ = some (.int .u64 0) ∧ wr.frozen? ⟨w.heap.size + 1, 0, none⟩ = false ∧ wr.frozen? ⟨w.heap.size + 1, 1, none⟩ = false) ∧ Below w.heap.size w wr ∧ w.heap.size + 1 + 1 + 1 < wr.heap.size) (fun i _ _ => (intOf i + 2).toNat)
  case atStart =>
    refine ⟨254, 0, 0, rfl, by omega, by omega, by omega, rootInv_start ha, ?_, ?_, ?_, ?_, ?_, by simp⟩
    · refine ⟨⟨?_, ?_, ?_, ?_⟩, ?_, ?_, ?_, ?_⟩ <;> go_simp
    · refine ⟨⟨?_, ?_, ?_, ?_⟩, ?_, ?_, ?_, ?_⟩ <;> (try rw [wd_zero]) <;> go_simp
    · refine ⟨⟨?_, ?_, ?_, ?_⟩, ?_, ?_, ?_, ?_⟩ <;> (try rw [wd_zero]) <;> go_simp
    · refine ⟨?_, ?_, ?_, ?_⟩ <;> go_simp
    · repeat' (first | with_reducible exact Below.refl _ _ | with_reducible assumption | with_reducible refine Below.drew ?_ | with_reducible refine bdrewN ?_ _ | with_reducible refine Below.alloc ?_ ?_ _ | with_reducible refine Below.setCell ?_ ?_ _ | with_reducible refine Below.trans ?_ (Below.mono (by assumption) ?_) | omega | (simp; done) | (simp; omega))
  case round =>
    obtain ⟨k, x, r, rfl, hk0, hk1, hk2, hI, hCa, hCx, hCr, hC2, hB, hz⟩ := hrel
    by_cases hk : 0 ≤ k
    · obtain ⟨j, rfl⟩ := Int.eq_ofNat_of_zero_le hk
      obtain ⟨e1, e2, e3, ur, ux, uR, uT, uX⟩ := root_numbers ha hI.out
      obtain ⟨st1, st2⟩ := root_step hI.out
      have hv := twoBits_lt a j
      have C1 := fun W => Shl_any r ur 2 (by omega) (by omega) W
      have C2 := fun W => Shl_any x ux 2 (by omega) (by omega) W
      have C3 := fun W => Shl_any x ux 1 (by omega) (by omega) W
      rw [show (2 : Int).toNat = 2 from rfl, e1] at C1
      rw [show (2 : Int).toNat = 2 from rfl, e2] at C2
      rw [show (1 : Int).toNat = 1 from rfl, e3] at C3
      have q0 := low_or (n := r * 4) (v := twoBits a j) (by omega) hv
      have q1 := low_1 (n := r * 4) (v := twoBits a j) (by omega) hv
      have q2 := low_2 (n := r * 4) (v := twoBits a j) (by omega) hv
      have q3 := low_3 (n := r * 4) (v := twoBits a j) (by omega) hv
      have t0 := low2_or (n := x * 4) (by omega)
      have t1 := (low2_1 (n := x * 4) (by omega)).symm
      have t2 := (low2_2 (n := x * 4) (by omega)).symm
      have t3 := (low2_3 (n := x * 4) (by omega)).symm
      have s0 := low2_or (n := x * 2) (by omega)
      have s1 := low2_1 (n := x * 2) (by omega)
      have s2 := low2_2 (n := x * 2) (by omega)
      have s3 := low2_3 (n := x * 2) (by omega)
      have hqq : bits .or .u64 (wd 0 (r * 4) : Nat) (bits .or .u64 (IntKind.u64.wrap ((bitN a (j + 1) : Int) * 2)) (bitN a j : Int)) = (wd 0 (r * 4 + twoBits a j) : Nat) := by rw [or_bits a j]; exact q0
      have hqq := Lib.hid hqq
      clear q0
      clear e1 e2 e3 hv
      have hj : (j : Int) ≤ 254 := hk1
      generalize r * 4 + twoBits a j = Rv at *
      generalize twoBits a j = v at *
      generalize r * 4 = R4 at *
      generalize x * 4 + 1 = T at *
      generalize x * 4 = X4 at *
      generalize x * 2 + 1 = X3 at *
      generalize x * 2 = X2 at *
      have tok1 : True := trivial
      have C1 := Lib.hid C1
      have C2 := Lib.hid C2
      have C3 := Lib.hid C3
      have st1 := Lib.hid st1
      have st2 := Lib.hid st2
      have s0 := Lib.hid s0
      have s1 := Lib.hid s1
      have s2 := Lib.hid s2
      have s3 := Lib.hid s3
      have gA := hCa.out
      have gX := hCx.out
      have gR := hCr.out
      clear hCa hCx hCr
      obtain ⟨⟨r0, r1, r2, r3⟩, fr0, fr1, fr2, fr3⟩ := id gR
      have gA := Lib.hid gA
      have gX := Lib.hid gX
      have gR := Lib.hid gR
      go_wp2_with fail
      refine (C1.out _).mono ?_
      rintro e w1 ⟨rfl, hb1⟩
      clear r0 r1 r2 r3 fr0 fr1 fr2 fr3
      have hz1 : w.heap.size + 1 + 1 + 1 < w1.heap.size := Nat.lt_of_lt_of_le hz hb1.size
      have gA1 := Lib.hid (gA.out.below hb1 (by omega))
      have gX1 := Lib.hid (gX.out.below hb1 (by omega))
      have gR1 := Lib.hid (gR.out.below hb1 (by omega))
      have hB1 : Below (w.heap.size + 1 + 1) wr w1 := hb1.mono (by omega)
      obtain ⟨⟨r0, r1, r2, r3⟩, fr0, fr1, fr2, fr3⟩ := id gR1.out
      go_upto_region 6 with (fail)
      clear r0 r1 r2 r3 fr0 fr1 fr2 fr3
      have gR2 := Lib.hid (gR1.out.put (.int .u64 (wd 0 R4)) (.int .u64 (wd 1 R4)) (.int .u64 (wd 2 R4)) (.int .u64 (wd 3 R4)))
      have gX2 : Hid (C4 ((((w1.setCell ⟨w.heap.size + 1 + 1 + 1, 0, none⟩ (.int .u64 (wd 0 R4))).setCell ⟨w.heap.size + 1 + 1 + 1, 1, none⟩ (.int .u64 (wd 1 R4))).setCell ⟨w.heap.size + 1 + 1 + 1, 2, none⟩ (.int .u64 (wd 2 R4))).setCell ⟨w.heap.size + 1 + 1 + 1, 3, none⟩ (.int .u64 (wd 3 R4))) (w.heap.size + 1 + 1) x) := (((gX1.out.far (by simp <;> omega) _).far (by simp <;> omega) _).far (by simp <;> omega) _).far (by simp <;> omega) _
      have gA2 : Hid (C4 ((((w1.setCell ⟨w.heap.size + 1 + 1 + 1, 0, none⟩ (.int .u64 (wd 0 R4))).setCell ⟨w.heap.size + 1 + 1 + 1, 1, none⟩ (.int .u64 (wd 1 R4))).setCell ⟨w.heap.size + 1 + 1 + 1, 2, none⟩ (.int .u64 (wd 2 R4))).setCell ⟨w.heap.size + 1 + 1 + 1, 3, none⟩ (.int .u64 (wd 3 R4))) w.heap.size a) := (((gA1.out.far (by simp <;> omega) _).far (by simp <;> omega) _).far (by simp <;> omega) _).far (by simp <;> omega) _
      have hB2 : Below (w.heap.size + 1 + 1) wr ((((w1.setCell ⟨w.heap.size + 1 + 1 + 1, 0, none⟩ (.int .u64 (wd 0 R4))).setCell ⟨w.heap.size + 1 + 1 + 1, 1, none⟩ (.int .u64 (wd 1 R4))).setCell ⟨w.heap.size + 1 + 1 + 1, 2, none⟩ (.int .u64 (wd 2 R4))).setCell ⟨w.heap.size + 1 + 1 + 1, 3, none⟩ (.int .u64 (wd 3 R4))) := by
        repeat (first | exact Below.refl _ _ | assumption | refine Below.drew ?_ | refine Below.alloc ?_ (by first | omega | (simp; done) | (simp; omega)) _ | refine Below.setCell ?_ (by first | omega | (simp; done) | (simp; omega)) _ | refine Below.trans ?_ (Below.mono (by assumption) (by first | omega | (simp; done) | (simp; omega))))
      have hz2 : w.heap.size + 1 + 1 + 1 < ((((w1.setCell ⟨w.heap.size + 1 + 1 + 1, 0, none⟩ (.int .u64 (wd 0 R4))).setCell ⟨w.heap.size + 1 + 1 + 1, 1, none⟩ (.int .u64 (wd 1 R4))).setCell ⟨w.heap.size + 1 + 1 + 1, 2, none⟩ (.int .u64 (wd 2 R4))).setCell ⟨w.heap.size + 1 + 1 + 1, 3, none⟩ (.int .u64 (wd 3 R4))).heap.size := by simpa using hz1
      generalize ((((w1.setCell ⟨w.heap.size + 1 + 1 + 1, 0, none⟩ (.int .u64 (wd 0 R4))).setCell ⟨w.heap.size + 1 + 1 + 1, 1, none⟩ (.int .u64 (wd 1 R4))).setCell ⟨w.heap.size + 1 + 1 + 1, 2, none⟩ (.int .u64 (wd 2 R4))).setCell ⟨w.heap.size + 1 + 1 + 1, 3, none⟩ (.int .u64 (wd 3 R4))) = W1 at gR2 gX2 gA2 hB2 hz2 ⊢
      clear gA1 gX1 gR1 hB1 hb1 hz1 gX gR
      go_cut [14] (fun _ wx => Hid (C4 wx (w.heap.size + 1 + 1) x) ∧ Hid (K4 wx (w.heap.size + 1 + 1 + 1) (.int .u64 (wd 0 Rv)) (.int .u64 (wd 1 R4)) (.int .u64 (wd 2 R4)) (.int .u64 (wd 3 R4))) ∧ Below (w.heap.size + 1 + 1) wr wx ∧ w.heap.size + 1 + 1 + 1 < wx.heap.size)
      case first =>
        clear C1 C2 C3 st1 st2 s0 s1 s2 s3 t0 t1 t2 t3 q1 q2 q3 hI hC2
        have hjw : IntKind.i64.wrap ((j : Int) + 1) = (j : Int) + 1 := by rw [IntKind.wrap_i64]; omega
        obtain ⟨⟨r0, r1, r2, r3⟩, fr0, fr1, fr2, fr3⟩ := id gR2.out
        obtain ⟨⟨a0, a1, a2, a3⟩, _⟩ := id gA2.out
        go_region_with (first
          | (go_at_call 68; have _t := tok1; clear tok1 _t; refine (Bit_any a _ (by omega) (by omega) _).mono ?_; rintro e w2 ⟨rfl, hb2⟩; have hz3 : w.heap.size + 1 + 1 + 1 < w2.heap.size := (Nat.lt_of_lt_of_le (by first | exact hz2 | (simp; exact hz2)) hb2.size); have gA3 : Hid (C4 w2 w.heap.size a) := (by first | exact K4.below gA2.out hb2 (by first | omega | (simp; omega)) | exact K4.below (K4.drew gA2.out) hb2 (by first | omega | (simp; omega))); have gX3 : Hid (C4 w2 (w.heap.size + 1 + 1) x) := (by first | exact K4.below gX2.out hb2 (by first | omega | (simp; omega)) | exact K4.below (K4.drew gX2.out) hb2 (by first | omega | (simp; omega))); have gR3 : Hid (C4 w2 (w.heap.size + 1 + 1 + 1) R4) := (by first | exact K4.below gR2.out hb2 (by first | omega | (simp; omega)) | exact K4.below (K4.drew gR2.out) hb2 (by first | omega | (simp; omega))); obtain ⟨⟨r0', r1', r2', r3'⟩, fr0', fr1', fr2', fr3'⟩ := id gR3.out; obtain ⟨⟨a0', a1', a2', a3'⟩, _⟩ := id gA3.out)
          | (go_at_call 68; refine (Bit_any a _ (by omega) (by omega) _).mono ?_; rintro e w3 ⟨rfl, hb3⟩; have hz4 : w.heap.size + 1 + 1 + 1 < w3.heap.size := (Nat.lt_of_lt_of_le (by first | exact hz3 | (simp; exact hz3)) hb3.size); have gX4 : Hid (C4 w3 (w.heap.size + 1 + 1) x) := (by first | exact K4.below gX3.out hb3 (by first | omega | (simp; omega)) | exact K4.below (K4.drew gX3.out) hb3 (by first | omega | (simp; omega))); have gR4 : Hid (C4 w3 (w.heap.size + 1 + 1 + 1) R4) := (by first | exact K4.below gR3.out hb3 (by first | omega | (simp; omega)) | exact K4.below (K4.drew gR3.out) hb3 (by first | omega | (simp; omega))); obtain ⟨⟨r0'', r1'', r2'', r3''⟩, fr0'', fr1'', fr2'', fr3''⟩ := id gR4.out))
        all_goals go_wp2_with fail
        all_goals
          go_meet
          refine ⟨gX4.out.far (by simp <;> omega) _, by first | exact gR4.out.set0 _ | (rw [hqq.out]; exact gR4.out.set0 _), ?_, by simpa using hz4⟩
          repeat (first | exact Below.refl _ _ | assumption | refine Below.drew ?_ | refine Below.alloc ?_ (by first | omega | (simp; done) | (simp; omega)) _ | refine Below.setCell ?_ (by first | omega | (simp; done) | (simp; omega)) _ | refine Below.trans ?_ (Below.mono (by assumption) (by first | omega | (simp; done) | (simp; omega))))
      case rest =>
        obtain ⟨gx, gr, hB3, hz3⟩ := hcut
        clear hqq tok1 C1 gR2 gX2 gA2 hB2 hz2
        have gr : Hid (C4 wc (w.heap.size + 1 + 1 + 1) Rv) := by have := gr.out; rwa [← q1, ← q2, ← q3] at this
        clear q1 q2 q3
        obtain ⟨⟨x0, x1, x2, x3⟩, fx0, fx1, fx2, fx3⟩ := id gx.out
        go_wp2_with fail
        refine (C2.out _).mono ?_
        rintro e w4 ⟨rfl, hb4⟩
        clear x0 x1 x2 x3 fx0 fx1 fx2 fx3 C2
        have hz4 : w.heap.size + 1 + 1 + 1 < w4.heap.size := Nat.lt_of_lt_of_le hz3 hb4.size
        have gx4 := gx.out.below hb4 (by omega)
        have gr4 := Lib.hid (gr.out.below hb4 (by omega))
        have hB4 : Below (w.heap.size + 1 + 1) wr w4 := hB3.trans (hb4.mono (by omega))
        clear gx gr hB3 hb4 hz3
        obtain ⟨⟨x0, x1, x2, x3⟩, fx0, fx1, fx2, fx3⟩ := id gx4
        have gx4 := Lib.hid gx4
        have hz4x : w.heap.size + 1 + 1 < w4.heap.size := by omega
        go_wp2_with fail
        refine (C3.out _).mono ?_
        rintro e w5 ⟨rfl, hb5⟩
        clear x0 x1 x2 x3 fx0 fx1 fx2 fx3 C3
        have hsz : (w4.alloc (.cells #[.int .u64 (wd 0 T), .int .u64 (wd 1 T), .int .u64 (wd 2 T), .int .u64 (wd 3 T)] 75)).heap.size = w4.heap.size + 1 := by simp
        have gt5 := (K4.new w4 75 (.int .u64 (wd 0 T)) (.int .u64 (wd 1 T)) (.int .u64 (wd 2 T)) (.int .u64 (wd 3 T))).below hb5 (by rw [hsz]; omega)
        have gx5 := (gx4.out.alloc hz4x _).below hb5 (by rw [hsz]; omega)
        have gr5 := (gr4.out.alloc hz4 _).below hb5 (by rw [hsz]; omega)
        have hz5 : w4.heap.size < w5.heap.size := by have := hb5.size; rw [hsz] at this; omega
        have hB5 : Below (w.heap.size + 1 + 1) wr w5 := by
          repeat (first | exact Below.refl _ _ | assumption | refine Below.drew ?_ | refine Below.alloc ?_ (by first | omega | (simp; done) | (simp; omega)) _ | refine Below.setCell ?_ (by first | omega | (simp; done) | (simp; omega)) _ | refine Below.trans ?_ (Below.mono (by assumption) (by first | omega | (simp; done) | (simp; omega))))
        clear gx4 gr4 hB4 hb5 hsz
        obtain ⟨⟨x0, x1, x2, x3⟩, fx0, fx1, fx2, fx3⟩ := id gx5
        have gt5 := Lib.hid gt5
        have gr5 := Lib.hid gr5
        have gx5 := Lib.hid gx5
        go_upto_region 10 with (fail)
        clear x0 x1 x2 x3 fx0 fx1 fx2 fx3
        have gx6 := Lib.hid (gx5.out.put (.int .u64 (wd 0 X2)) (.int .u64 (wd 1 X2)) (.int .u64 (wd 2 X2)) (.int .u64 (wd 3 X2)))
        have gr6 : Hid (C4 ((((w5.setCell ⟨w.heap.size + 1 + 1, 0, none⟩ (.int .u64 (wd 0 X2))).setCell ⟨w.heap.size + 1 + 1, 1, none⟩ (.int .u64 (wd 1 X2))).setCell ⟨w.heap.size + 1 + 1, 2, none⟩ (.int .u64 (wd 2 X2))).setCell ⟨w.heap.size + 1 + 1, 3, none⟩ (.int .u64 (wd 3 X2))) (w.heap.size + 1 + 1 + 1) Rv) := (((gr5.out.far (by simp <;> omega) _).far (by simp <;> omega) _).far (by simp <;> omega) _).far (by simp <;> omega) _
        have gt6 : Hid (C4 ((((w5.setCell ⟨w.heap.size + 1 + 1, 0, none⟩ (.int .u64 (wd 0 X2))).setCell ⟨w.heap.size + 1 + 1, 1, none⟩ (.int .u64 (wd 1 X2))).setCell ⟨w.heap.size + 1 + 1, 2, none⟩ (.int .u64 (wd 2 X2))).setCell ⟨w.heap.size + 1 + 1, 3, none⟩ (.int .u64 (wd 3 X2))) w4.heap.size T) := (((gt5.out.far (by simp <;> omega) _).far (by simp <;> omega) _).far (by simp <;> omega) _).far (by simp <;> omega) _
        have hB6 : Below (w.heap.size + 1 + 1) wr ((((w5.setCell ⟨w.heap.size + 1 + 1, 0, none⟩ (.int .u64 (wd 0 X2))).setCell ⟨w.heap.size + 1 + 1, 1, none⟩ (.int .u64 (wd 1 X2))).setCell ⟨w.heap.size + 1 + 1, 2, none⟩ (.int .u64 (wd 2 X2))).setCell ⟨w.heap.size + 1 + 1, 3, none⟩ (.int .u64 (wd 3 X2))) := by
          repeat (first | exact Below.refl _ _ | assumption | refine Below.drew ?_ | refine Below.alloc ?_ (by first | omega | (simp; done) | (simp; omega)) _ | refine Below.setCell ?_ (by first | omega | (simp; done) | (simp; omega)) _ | refine Below.trans ?_ (Below.mono (by assumption) (by first | omega | (simp; done) | (simp; omega))))
        have hz6 : w4.heap.size < ((((w5.setCell ⟨w.heap.size + 1 + 1, 0, none⟩ (.int .u64 (wd 0 X2))).setCell ⟨w.heap.size + 1 + 1, 1, none⟩ (.int .u64 (wd 1 X2))).setCell ⟨w.heap.size + 1 + 1, 2, none⟩ (.int .u64 (wd 2 X2))).setCell ⟨w.heap.size + 1 + 1, 3, none⟩ (.int .u64 (wd 3 X2))).heap.size := by simpa using hz5
        generalize ((((w5.setCell ⟨w.heap.size + 1 + 1, 0, none⟩ (.int .u64 (wd 0 X2))).setCell ⟨w.heap.size + 1 + 1, 1, none⟩ (.int .u64 (wd 1 X2))).setCell ⟨w.heap.size + 1 + 1, 2, none⟩ (.int .u64 (wd 2 X2))).setCell ⟨w.heap.size + 1 + 1, 3, none⟩ (.int .u64 (wd 3 X2))) = W6 at gr6 gx6 gt6 hB6 hz6 ⊢
        clear gx5 gr5 gt5 hB5 hz5
        obtain ⟨⟨t0, t1, t2, t3⟩, _⟩ := id gt6.out
        obtain ⟨⟨r0, r1, r2, r3⟩, _⟩ := id gr6.out
        by_cases hc : Rv < T
        · go_wp2_with fail
          refine (Less_any _ _ uR uT _).mono ?_
          rintro e w7 ⟨rfl, hb7⟩
          clear t0 t1 t2 t3 r0 r1 r2 r3
          have gx7 := gx6.out.below hb7 (by omega)
          have gr7 := gr6.out.below hb7 (by omega)
          have hB7 : Below (w.heap.size + 1 + 1) wr w7 := hB6.trans (hb7.mono (by omega))
          clear gx6 gr6 gt6 hB6 hb7
          have gx7 := Lib.hid gx7
          have gr7 := Lib.hid gr7
          go_wp2
          go_roundw
          case rel => exact ⟨(j : Int) - 2, X2, Rv, rfl, by omega, by omega, by omega, st1.out hc, K4.below gA.out hB7 (by omega), gx7, gr7, ⟨(hB7.cell (p := ⟨w.heap.size + 1, 0, none⟩) (by show w.heap.size + 1 < w.heap.size + 1 + 1; omega)).trans hC2.out.1, (hB7.cell (p := ⟨w.heap.size + 1, 1, none⟩) (by show w.heap.size + 1 < w.heap.size + 1 + 1; omega)).trans hC2.out.2.1, (hB7.frozen (p := ⟨w.heap.size + 1, 0, none⟩) (by show w.heap.size + 1 < w.heap.size + 1 + 1; omega)).trans hC2.out.2.2.1, (hB7.frozen (p := ⟨w.heap.size + 1, 1, none⟩) (by show w.heap.size + 1 < w.heap.size + 1 + 1; omega)).trans hC2.out.2.2.2⟩, hB.trans (hB7.mono (by omega)), Nat.lt_of_lt_of_le hz (hB7).size⟩
          case measure => simp only [intOf]; omega
        · go_wp2_with fail
          refine (Less_any _ _ uR uT _).mono ?_
          rintro e w7 ⟨rfl, hb7⟩
          clear t0 t1 t2 t3 r0 r1 r2 r3
          have hz7 : w4.heap.size < w7.heap.size := Nat.lt_of_lt_of_le hz6 hb7.size
          have gx7 := gx6.out.below hb7 (by omega)
          have gr7 := gr6.out.below hb7 (by omega)
          have gt7 := gt6.out.below hb7 (by omega)
          have hB7 : Below (w.heap.size + 1 + 1) wr w7 := hB6.trans (hb7.mono (by omega))
          clear gx6 gr6 gt6 hB6 hb7 hz6
          obtain ⟨⟨t0, t1, t2, t3⟩, _⟩ := id gt7
          obtain ⟨⟨r0, r1, r2, r3⟩, fr0, fr1, fr2, fr3⟩ := id gr7
          have gx7 := Lib.hid gx7
          have gr7 := Lib.hid gr7
          clear gt7
          go_wp2_with fail
          refine (Sub_any _ _ uR uT _).mono ?_
          rintro e w8 ⟨rfl, hb8⟩
          clear t0 t1 t2 t3 r0 r1 r2 r3 fr0 fr1 fr2 fr3
          have gx8 := gx7.out.below hb8 (by omega)
          have gr8 := gr7.out.below hb8 (by omega)
          have hB8 : Below (w.heap.size + 1 + 1) wr w8 := hB7.trans (hb8.mono (by omega))
          have hz8 : w4.heap.size < w8.heap.size := Nat.lt_of_lt_of_le hz7 hb8.size
          clear gx7 gr7 hB7 hb8 hz7
          have hsub : subN Rv T = Rv - T := subN_le uR (by omega)
          rw [hsub]
          generalize hRT : Rv - T = D at *
          clear hsub
          obtain ⟨⟨x0, x1, x2, x3⟩, fx0, fx1, fx2, fx3⟩ := id gx8
          obtain ⟨⟨r0, r1, r2, r3⟩, fr0, fr1, fr2, fr3⟩ := id gr8
          have gx8 := Lib.hid gx8
          have gr8 := Lib.hid gr8
          have s0 := s0.out
          go_wp2
          clear x0 x1 x2 x3 fx0 fx1 fx2 fx3 r0 r1 r2 r3 fr0 fr1 fr2 fr3
          have gx9 : C4 (((((w8.setCell ⟨w.heap.size + 1 + 1 + 1, 0, none⟩ (.int .u64 (wd 0 D))).setCell ⟨w.heap.size + 1 + 1 + 1, 1, none⟩ (.int .u64 (wd 1 D))).setCell ⟨w.heap.size + 1 + 1 + 1, 2, none⟩ (.int .u64 (wd 2 D))).setCell ⟨w.heap.size + 1 + 1 + 1, 3, none⟩ (.int .u64 (wd 3 D))).setCell ⟨w.heap.size + 1 + 1, 0, none⟩ (.int .u64 (wd 0 X3))) (w.heap.size + 1 + 1) X3 := by
            have := K4.set0 ((((gx8.out.far (by simp <;> omega) _).far (by simp <;> omega) _).far (by simp <;> omega) _).far (by simp <;> omega) _ : C4 ((((w8.setCell ⟨w.heap.size + 1 + 1 + 1, 0, none⟩ (.int .u64 (wd 0 D))).setCell ⟨w.heap.size + 1 + 1 + 1, 1, none⟩ (.int .u64 (wd 1 D))).setCell ⟨w.heap.size + 1 + 1 + 1, 2, none⟩ (.int .u64 (wd 2 D))).setCell ⟨w.heap.size + 1 + 1 + 1, 3, none⟩ (.int .u64 (wd 3 D))) (w.heap.size + 1 + 1) X2) (.int .u64 (wd 0 X3))
            rwa [← s1.out, ← s2.out, ← s3.out] at this
          have gr9 : C4 (((((w8.setCell ⟨w.heap.size + 1 + 1 + 1, 0, none⟩ (.int .u64 (wd 0 D))).setCell ⟨w.heap.size + 1 + 1 + 1, 1, none⟩ (.int .u64 (wd 1 D))).setCell ⟨w.heap.size + 1 + 1 + 1, 2, none⟩ (.int .u64 (wd 2 D))).setCell ⟨w.heap.size + 1 + 1 + 1, 3, none⟩ (.int .u64 (wd 3 D))).setCell ⟨w.heap.size + 1 + 1, 0, none⟩ (.int .u64 (wd 0 X3))) (w.heap.size + 1 + 1 + 1) D := (gr8.out.put (.int .u64 (wd 0 D)) (.int .u64 (wd 1 D)) (.int .u64 (wd 2 D)) (.int .u64 (wd 3 D))).far (by simp <;> omega) _
          have hB9 : Below (w.heap.size + 1 + 1) wr (((((w8.setCell ⟨w.heap.size + 1 + 1 + 1, 0, none⟩ (.int .u64 (wd 0 D))).setCell ⟨w.heap.size + 1 + 1 + 1, 1, none⟩ (.int .u64 (wd 1 D))).setCell ⟨w.heap.size + 1 + 1 + 1, 2, none⟩ (.int .u64 (wd 2 D))).setCell ⟨w.heap.size + 1 + 1 + 1, 3, none⟩ (.int .u64 (wd 3 D))).setCell ⟨w.heap.size + 1 + 1, 0, none⟩ (.int .u64 (wd 0 X3))) := by
            repeat (first | exact Below.refl _ _ | assumption | refine Below.drew ?_ | refine Below.alloc ?_ (by first | omega | (simp; done) | (simp; omega)) _ | refine Below.setCell ?_ (by first | omega | (simp; done) | (simp; omega)) _ | refine Below.trans ?_ (Below.mono (by assumption) (by first | omega | (simp; done) | (simp; omega))))
          have gx9 := Lib.hid gx9
          have gr9 := Lib.hid gr9
          have st2 := st2.out hc
          go_roundw
          case rel => exact ⟨(j : Int) - 2, X3, D, rfl, by omega, by omega, by omega, st2, K4.below gA.out hB9 (by omega), gx9, gr9, ⟨(hB9.cell (p := ⟨w.heap.size + 1, 0, none⟩) (by show w.heap.size + 1 < w.heap.size + 1 + 1; omega)).trans hC2.out.1, (hB9.cell (p := ⟨w.heap.size + 1, 1, none⟩) (by show w.heap.size + 1 < w.heap.size + 1 + 1; omega)).trans hC2.out.2.1, (hB9.frozen (p := ⟨w.heap.size + 1, 0, none⟩) (by show w.heap.size + 1 < w.heap.size + 1 + 1; omega)).trans hC2.out.2.2.1, (hB9.frozen (p := ⟨w.heap.size + 1, 1, none⟩) (by show w.heap.size + 1 < w.heap.size + 1 + 1; omega)).trans hC2.out.2.2.2⟩, hB.trans (hB9.mono (by omega)), Nat.lt_of_lt_of_le hz (hB9).size⟩
          case measure => simp only [intOf]; omega
    · obtain rfl : k = -2 := by omega
      obtain ⟨he1, he2⟩ := root_end hI.out
      have he1 := Lib.hid he1
      obtain ⟨hr0, hr1, hr2, hr3⟩ := hC2.out
      obtain ⟨⟨x0, x1, x2, x3⟩, _⟩ := id hCx.out
      obtain ⟨⟨r0, r1, r2, r3⟩, _⟩ := id hCr.out
      have ur : U256 r := by have := ha.out; have := he1.out; unfold U256; omega
      clear hI hC2 hCa hCx hCr
      go_wp2
      go_region
      go_wp2
      refine bodyPost_ret (v := .tuple #[.agg #[.int .u64 (wd 0 x), .int .u64 (wd 1 x)], .bool (!decide (r = 0))]) (by simp [results, Tryd.results60, go_sem, *]) rfl ⟨x, r, ?_, he1.out, he2, ?_⟩
      · rw [show (!decide (r = 0)) = decide (r ≠ 0) from by by_cases h : r = 0 <;> simp [h]]
      · repeat' (first | with_reducible exact Below.refl _ _ | with_reducible assumption | with_reducible refine Below.drew ?_ | with_reducible refine bdrewN ?_ _ | with_reducible refine Below.alloc ?_ ?_ _ | with_reducible refine Below.setCell ?_ ?_ _ | with_reducible refine Below.trans ?_ (Below.mono (by assumption) ?_) | omega | (simp; done) | (simp; omega))
end Go.Proofs.YtldmbneckcjonabDoor
namespace Go.Proofs.YtldmbneckcjonabDoor
open Go.RowKit
def K2 (W : World) (b : Nat) (c0 c1 : Value) : Prop := (W.cell? ⟨b, 0, none⟩ = some c0 ∧ W.cell? ⟨b, 1, none⟩ = some c1) ∧ W.frozen? ⟨b, 0, none⟩ = false ∧ W.frozen? ⟨b, 1, none⟩ = false
theorem K2.lt {W : World} {b : Nat} {c0 c1 : Value} (h : K2 W b c0 c1) : b < W.heap.size := World.block_lt_of_cell? _ _ h.1.1
theorem K2.call {W W1 : World} {b : Nat} {c0 c1 : Value} (h : K2 W b c0 c1) (hb : Below W.heap.size W W1) : K2 W1 b c0 c1 := by
  have hl := h.lt
  obtain ⟨⟨h0, h1⟩, f0, f1⟩ := h
  exact ⟨⟨(hb.cell (p := ⟨b, 0, none⟩) hl).trans h0, (hb.cell (p := ⟨b, 1, none⟩) hl).trans h1⟩, (hb.frozen (p := ⟨b, 0, none⟩) hl).trans f0, (hb.frozen (p := ⟨b, 1, none⟩) hl).trans f1⟩
theorem K2.drew {W : World} {b : Nat} {c0 c1 : Value} (h : K2 W b c0 c1) : K2 W.drew b c0 c1 := h
theorem K2.new (W : World) (t : TypeId) (c0 c1 : Value) : K2 (W.alloc (.cells #[c0, c1] t)) W.heap.size c0 c1 := by
  refine ⟨⟨?_, ?_⟩, ?_, ?_⟩ <;> go_simp
theorem NB.put2 {W : World} {g b : Nat} {n : Bool} {e : Int} {s : Nat} {l : Bool} (h : NB W g n e s l) (hb : b ≠ g) (v0 v1 : Value) : NB ((W.setCell ⟨b, 0, none⟩ v0).setCell ⟨b, 1, none⟩ v1) g n e s l := (h.far (p := ⟨b, 0, none⟩) hb v0).far (p := ⟨b, 1, none⟩) hb v1
set_option maxRecDepth 100000 in
set_option maxHeartbeats 4000000 in
theorem rooted_walk (n l lq : Bool) (e K1 P K H : Int) (s N x : Nat)
    (L : Hid (∀ W, Calls Tryd.prog 55 #[W4 s] W fun e w' => e = .returned (.int .i64 (bl s)) ∧ Below W.heap.size W w'))
    (hK1 : IntKind.i64.wrap (254 - (bl s : Int)) = K1) (hd : IntKind.i64.wrap (e - K1) = e - K1) (hP : bits .and .i64 (e - K1) 1 = P) (hK : IntKind.i64.wrap (K1 - P) = K) (hd2 : wrap64 (e - K) = e - K) (hH : (e - K).tdiv 2 = H) (hH0 : wrap64 H = H)
    (SH : Hid (∀ W, Calls Tryd.prog 48 #[W4 s, .int .i64 K] W fun e w' => e = .returned (W4 N) ∧ Below W.heap.size W w'))
    (RT : Hid (∀ W, Calls Tryd.prog 60 #[W4 N] W fun e w' => e = .returned (.tuple #[.agg #[.int .u64 (wd 0 x), .int .u64 (wd 1 x)], .bool lq]) ∧ Below W.heap.size W w'))
    (w : World) :
    Calls Tryd.prog 49 #[NV n e s l] w fun e w' => e = .returned (.agg #[.bool false, .int .i64 H, .int .u64 (wd 0 x), .int .u64 (wd 1 x), .int .u64 0, .int .u64 0, .bool (lq || l)]) ∧ Below w.heap.size w w' := by
  go_enter Tryd.func49, Tryd.ntmps49
  go_upto_region 3 with (go_at_call 55; refine (L.out _).mono ?_; rintro e w1 ⟨rfl, hb1⟩; have p1 : NB w1 w.heap.size n e s l := (by first | exact NB.call (NB.alloc NB.new _) hb1 | exact NB.call (NB.drew (NB.alloc NB.new _)) hb1); have p2 : NB w1 (w.heap.size + 1) false 0 0 false := (by first | exact NB.call (NB.zeroAt (by simp)) hb1 | exact NB.call (NB.drew (NB.zeroAt (by simp))) hb1); have hB1 : Below w.heap.size w w1 := (by repeat' (first | with_reducible exact Below.refl _ _ | with_reducible assumption | with_reducible refine Below.drew ?_ | with_reducible refine bdrewN ?_ _ | with_reducible refine Below.alloc ?_ ?_ _ | with_reducible refine Below.setCell ?_ ?_ _ | with_reducible refine Below.trans ?_ (Below.mono (by assumption) ?_) | omega | (simp; done) | (simp; omega))); clear hb1; have p1k := p1; obtain ⟨⟨x0, x1, x2, x3, x4, x5, x6⟩, xf0, xf1, xf2, xf3, xf4, xf5, xf6⟩ := p1)
  clear L hK1 hd hP hK
  go_cut [4, 5] (fun s4 s5 wx => ∃ g : Nat, s4 = .pointer (some ⟨g, 0, none⟩) ∧ s5 = .bool lq ∧ (wx.cell? ⟨g, 0, none⟩ = some (.int .u64 (wd 0 x)) ∧ wx.cell? ⟨g, 1, none⟩ = some (.int .u64 (wd 1 x))) ∧ NB wx w.heap.size n e s l ∧ NB wx (w.heap.size + 1) false 0 0 false ∧ Below w.heap.size w wx)
  case first =>
    go_wp2_with fail
    refine (SH.out _).mono ?_
    rintro e w3 ⟨rfl, hb3⟩
    have p1_3 : NB w3 w.heap.size n e s l := NB.call p1k hb3
    have p2_3 : NB w3 (w.heap.size + 1) false 0 0 false := NB.call p2 hb3
    have hB3 : Below w.heap.size w w3 := hB1.trans (hb3.mono (Nat.le_of_lt p1k.lt))
    clear hb3 SH p1k p2 hB1 x0 x1 x2 x3 x4 x5 x6 xf0 xf1 xf2 xf3 xf4 xf5 xf6
    go_wp2_with fail
    refine (RT.out _).mono ?_
    rintro e w4 ⟨rfl, hb4⟩
    have p1_4 : NB w4 w.heap.size n e s l := NB.call p1_3 hb4
    have p2_4 : NB w4 (w.heap.size + 1) false 0 0 false := NB.call p2_3 hb4
    have hl2 := p2_4.lt
    have hl1 := p1_4.lt
    have hB4 : Below w.heap.size w w4 := hB3.trans (hb4.mono (Nat.le_of_lt p1_3.lt))
    clear hb4 RT p1_3 p2_3 hB3
    go_wp2_with fail
    go_meet
    refine ⟨_, rfl, rfl, ?_, by repeat' (first | with_reducible assumption | with_reducible refine NB.drew ?_ | with_reducible refine NB.alloc ?_ _ | with_reducible refine NB.put2 ?_ (by omega) _ _), by repeat' (first | with_reducible assumption | with_reducible refine NB.drew ?_ | with_reducible refine NB.alloc ?_ _ | with_reducible refine NB.put2 ?_ (by omega) _ _), by repeat' (first | with_reducible exact Below.refl _ _ | with_reducible assumption | with_reducible refine Below.drew ?_ | with_reducible refine bdrewN ?_ _ | with_reducible refine Below.alloc ?_ ?_ _ | with_reducible refine Below.setCell ?_ ?_ _ | with_reducible refine Below.trans ?_ (Below.mono (by assumption) ?_) | omega | (simp; done) | (simp; omega))⟩
    refine ⟨?_, ?_⟩ <;> (go_simp; done)
  case rest =>
    obtain ⟨g, rfl, rfl, ⟨z0, z1⟩, q1, q2, hBx⟩ := hcut
    clear p1k p2 hB1 x0 x1 x2 x3 x4 x5 x6 xf0 xf1 xf2 xf3 xf4 xf5 xf6 SH RT
    obtain ⟨⟨x0, x1, x2, x3, x4, x5, x6⟩, xf0, xf1, xf2, xf3, xf4, xf5, xf6⟩ := q1
    obtain ⟨⟨y0, y1, y2, y3, y4, y5, y6⟩, yf0, yf1, yf2, yf3, yf4, yf5, yf6⟩ := q2
    go_wp2_with fail
    all_goals
      refine bodyPost_ret (v := .agg #[.bool false, .int .i64 H, .int .u64 (wd 0 x), .int .u64 (wd 1 x), .int .u64 0, .int .u64 0, .bool (lq || l)]) (by simp [results, Tryd.results49, go_sem, *]) rfl ⟨rfl, ?_⟩
      repeat' (first | with_reducible exact Below.refl _ _ | with_reducible assumption | with_reducible refine Below.drew ?_ | with_reducible refine bdrewN ?_ _ | with_reducible refine Below.alloc ?_ ?_ _ | with_reducible refine Below.setCell ?_ ?_ _ | with_reducible refine Below.trans ?_ (Below.mono (by assumption) ?_) | omega | (simp; done) | (simp; omega))
end Go.Proofs.YtldmbneckcjonabDoor
namespace Go.Proofs.YtldmbneckcjonabDoor
open Go.RowKit
theorem and_one (x : Int) : bits .and .i64 x 1 = x % 2 := by
  have h1 : bits .and .i64 x 1 = IntKind.i64.wrap ((BitVec.ofInt 64 x &&& BitVec.ofInt 64 1).toNat : Int) := rfl
  have h2 : (BitVec.ofInt 64 x &&& BitVec.ofInt 64 1).toNat = (BitVec.ofInt 64 x).toNat % 2 := by
    rw [BitVec.toNat_and, show (BitVec.ofInt 64 1).toNat = 1 from by decide, Nat.and_one_is_mod]
  rw [h1, h2, IntKind.wrap_i64, BitVec.toNat_ofInt]
  omega
theorem root_uniq {n r s : Nat} (h1 : IsRoot n r) (h2 : IsRoot n s) : r = s := Nat.le_antisymm (sqLt (Nat.lt_of_le_of_lt h1.1 h2.2)) (sqLt (Nat.lt_of_le_of_lt h2.1 h1.2))
theorem root_mk {n x r : Nat} (h1 : x * x + r = n) (h2 : r ≤ 2 * x) : IsRoot n x ∧ decide (r ≠ 0) = decide (x * x ≠ n) := by
  have e : (x + 1) * (x + 1) = x * x + 2 * x + 1 := by rw [Nat.add_mul, Nat.mul_add]; omega
  refine ⟨⟨by omega, by rw [e]; omega⟩, ?_⟩
  by_cases h : r = 0
  · rw [decide_eq_false (by omega), decide_eq_false (by omega)]
  · rw [decide_eq_true h, decide_eq_true (by omega)]
theorem root_128 {n r : Nat} (h : IsRoot n r) (hn : bl n ≤ 256) : r < 2 ^ 128 := by
  have h1 := h.1
  have h2 : n < 2 ^ 256 := bl_le.1 hn
  refine Nat.lt_of_not_le fun h3 => ?_
  have := Nat.mul_le_mul h3 h3
  rw [← Nat.pow_add] at this
  omega
theorem wd_hi {x : Nat} (h : x < 2 ^ 128) : wd 2 x = 0 ∧ wd 3 x = 0 := by
  unfold wd
  constructor
  · rw [Nat.div_eq_of_lt (show x < 2 ^ (64 * 2) from h)]
  · rw [Nat.div_eq_of_lt (Nat.lt_trans h (show 2 ^ 128 < 2 ^ (64 * 3) from by decide))]
theorem root_fix {n : Nat} (hn : U256 n) (W : World) : Calls Tryd.prog 60 #[W4 n] W fun e w' => e = .returned (.tuple #[.agg #[.int .u64 (wd 0 (rootN n)), .int .u64 (wd 1 (rootN n))], .bool (decide (rootN n * rootN n ≠ n))]) ∧ Below W.heap.size W w' := by
  refine (Root_any n hn W).mono ?_
  rintro e w' ⟨x, r, rfl, h1, h2, hb⟩
  obtain ⟨h3, h4⟩ := root_mk h1 h2
  rw [h4, root_uniq h3 (rootN_is n)]
  exact ⟨rfl, hb⟩
/-- rooted's lift k and exponent h. -/
theorem rooted_any {n l : Bool} {e : Int} {s : Nat} (hs : s ≠ 0) (hb : bl s ≤ 253) (he1 : -100000 ≤ e) (he2 : e ≤ 100000) : ∃ (k : Nat) (h : Int), 2 * h = e - k ∧ 253 ≤ k + bl s ∧ k + bl s ≤ 254 ∧ U256 (rootN (s * 2 ^ k)) ∧ rootN (s * 2 ^ k) ≠ 0 ∧
    ∀ W, Calls Tryd.prog 49 #[NV n e s l] W fun e w' => e = .returned (NV false h (rootN (s * 2 ^ k)) (decide (rootN (s * 2 ^ k) * rootN (s * 2 ^ k) ≠ s * 2 ^ k) || l)) ∧ Below W.heap.size W w' := by
  have hs1 := bl_pos.2 hs
  obtain ⟨k, h, h1, h2, h3⟩ : ∃ (k : Nat) (h : Int), 2 * h = e - k ∧ (k : Int) = 254 - bl s - (e - (254 - bl s)) % 2 ∧ k + bl s ≤ 254 := by
    refine ⟨(254 - bl s - (e - (254 - bl s)) % 2).toNat, (e - (254 - bl s - (e - (254 - bl s)) % 2)) / 2, ?_, ?_, ?_⟩ <;> omega
  have hbk : bl (s * 2 ^ k) = bl s + k := bl_shift hs
  have hu : U256 (s * 2 ^ k) := by
    have := bl_le (n := s * 2 ^ k) (k := 256)
    exact this.1 (by omega)
  have hus : U256 s := by
    have := bl_le (n := s) (k := 256)
    exact this.1 (by omega)
  have hr := rootN_is (s * 2 ^ k)
  have h128 := root_128 hr (by omega)
  obtain ⟨w2, w3⟩ := wd_hi h128
  refine ⟨k, h, h1, by omega, h3, Nat.lt_trans h128 (by decide), root_pos hr (by have := Nat.mul_pos (Nat.pos_of_ne_zero hs) (Nat.two_pow_pos k); omega), fun W => ?_⟩
  have H := rooted_walk n l (decide (rootN (s * 2 ^ k) * rootN (s * 2 ^ k) ≠ s * 2 ^ k)) e (254 - bl s) ((e - (254 - bl s)) % 2) k h s (s * 2 ^ k) (rootN (s * 2 ^ k)) (fun W => Len_any s hus W) (wrapI_in (by omega) (by omega)) (wrapI_in (by omega) (by omega)) (and_one _) (by rw [h2]; exact wrapI_in (by omega) (by omega)) (wrap_in (by omega) (by omega)) (by rw [td_even (by omega)]; omega) (wrap_in (by omega) (by omega))
    (fun W => by
      have := Shl_any s hus (k : Int) (by omega) (by omega) W
      rw [Int.toNat_natCast, shlN_eq hu] at this
      exact this)
    (fun W => root_fix hu W) W
  refine H.mono ?_
  rintro e' w' ⟨rfl, hb⟩
  refine ⟨?_, hb⟩
  show _ = Ending.returned (.agg #[.bool false, .int .i64 h, .int .u64 (wd 0 _), .int .u64 (wd 1 _), .int .u64 (wd 2 _), .int .u64 (wd 3 _), .bool _])
  rw [w2, w3]
  rfl
end Go.Proofs.YtldmbneckcjonabDoor
namespace Go.Proofs.YtldmbneckcjonabDoor
open Go.RowKit
set_option maxRecDepth 100000 in
set_option maxHeartbeats 1000000 in
theorem sqrt_z (op m a b c : Nat) (Ka : Hid (∀ W, Calls Tryd.prog 15 #[.int .u64 a] W fun e w' => e = .returned (.int .i64 0) ∧ W = w')) (w : World) :
    Calls Tryd.prog 38 #[REC op m a b c] w (SoftOut a 0 false w) := by
  go_enter Tryd.func38, Tryd.ntmps38
  go_wp2_with (go_at_call_of 15 (Value.int IntKind.u64 a); refine (Ka.out _).mono ?_; rintro e w' ⟨rfl, rfl⟩)
  all_goals refine bodyPost_ret (v := RES1 a 0 false) (by simp [results, Tryd.results38, go_sem, *]) rfl ⟨rfl, ?_⟩
  repeat' (first | with_reducible exact Below.refl _ _ | with_reducible assumption | with_reducible refine Below.drew ?_ | with_reducible refine bdrewN ?_ _ | with_reducible refine Below.alloc ?_ ?_ _ | with_reducible refine Below.setCell ?_ ?_ _ | with_reducible refine Below.trans ?_ (Below.mono (by assumption) ?_) | omega | (simp; done) | (simp; omega))
set_option maxRecDepth 100000 in
set_option maxHeartbeats 1000000 in
theorem sqrt_neg (op m a b c ka : Nat) (Ka : Hid (∀ W, Calls Tryd.prog 15 #[.int .u64 a] W fun e w' => e = .returned (.int .i64 (ka : Int)) ∧ W = w')) (hka0 : ((ka : Int) == 0) = false) (hs : (((a : Int) / 9223372036854775808 == 1) = true)) (w : World) :
    Calls Tryd.prog 38 #[REC op m a b c] w (SoftOut 9221120237041090560 16 false w) := by
  go_enter Tryd.func38, Tryd.ntmps38
  go_wp2_with (first | (go_at_call_of 15 (Value.int IntKind.u64 a); refine (Ka.out _).mono ?_; rintro e w' ⟨rfl, rfl⟩) | (go_at_call 16; refine (bad_any _).mono ?_; rintro e w1 ⟨rfl, hb1⟩; obtain ⟨hc_, hf_⟩ := bcell1 hb1))
  all_goals refine bodyPost_ret (v := RES1 9221120237041090560 16 false) (by simp [results, Tryd.results38, go_sem, *]) rfl ⟨rfl, ?_⟩
  repeat' (first | with_reducible exact Below.refl _ _ | with_reducible assumption | with_reducible refine Below.drew ?_ | with_reducible refine bdrewN ?_ _ | with_reducible refine Below.alloc ?_ ?_ _ | with_reducible refine Below.setCell ?_ ?_ _ | with_reducible refine Below.trans ?_ (Below.mono (by assumption) ?_) | omega | (simp; done) | (simp; omega))
set_option maxRecDepth 100000 in
set_option maxHeartbeats 1000000 in
theorem sqrt_inf (op m a b c : Nat) (Ka : Hid (∀ W, Calls Tryd.prog 15 #[.int .u64 a] W fun e w' => e = .returned (.int .i64 3) ∧ W = w')) (hs : (((a : Int) / 9223372036854775808 == 1) = false)) (w : World) :
    Calls Tryd.prog 38 #[REC op m a b c] w (SoftOut a 0 false w) := by
  go_enter Tryd.func38, Tryd.ntmps38
  go_wp2_with (go_at_call_of 15 (Value.int IntKind.u64 a); refine (Ka.out _).mono ?_; rintro e w' ⟨rfl, rfl⟩)
  all_goals refine bodyPost_ret (v := RES1 a 0 false) (by simp [results, Tryd.results38, go_sem, *]) rfl ⟨rfl, ?_⟩
  repeat' (first | with_reducible exact Below.refl _ _ | with_reducible assumption | with_reducible refine Below.drew ?_ | with_reducible refine bdrewN ?_ _ | with_reducible refine Below.alloc ?_ ?_ _ | with_reducible refine Below.setCell ?_ ?_ _ | with_reducible refine Below.trans ?_ (Below.mono (by assumption) ?_) | omega | (simp; done) | (simp; omega))
set_option maxRecDepth 100000 in
set_option maxHeartbeats 1000000 in
theorem rsqrt_z (op m a b c : Nat) (Ka : Hid (∀ W, Calls Tryd.prog 15 #[.int .u64 a] W fun e w' => e = .returned (.int .i64 0) ∧ W = w')) (bi : Nat) (hi : bits .or .u64 (a : Int) 9218868437227405312 = bi) (w : World) :
    Calls Tryd.prog 39 #[REC op m a b c] w (SoftOut bi 8 false w) := by
  go_enter Tryd.func39, Tryd.ntmps39
  go_wp2_with (go_at_call_of 15 (Value.int IntKind.u64 a); refine (Ka.out _).mono ?_; rintro e w' ⟨rfl, rfl⟩)
  all_goals refine bodyPost_ret (v := RES1 bi 8 false) (by simp [results, Tryd.results39, go_sem, *]) rfl ⟨rfl, ?_⟩
  repeat' (first | with_reducible exact Below.refl _ _ | with_reducible assumption | with_reducible refine Below.drew ?_ | with_reducible refine bdrewN ?_ _ | with_reducible refine Below.alloc ?_ ?_ _ | with_reducible refine Below.setCell ?_ ?_ _ | with_reducible refine Below.trans ?_ (Below.mono (by assumption) ?_) | omega | (simp; done) | (simp; omega))
set_option maxRecDepth 100000 in
set_option maxHeartbeats 1000000 in
theorem rsqrt_neg (op m a b c ka : Nat) (Ka : Hid (∀ W, Calls Tryd.prog 15 #[.int .u64 a] W fun e w' => e = .returned (.int .i64 (ka : Int)) ∧ W = w')) (hka0 : ((ka : Int) == 0) = false) (hs : (((a : Int) / 9223372036854775808 == 1) = true)) (w : World) :
    Calls Tryd.prog 39 #[REC op m a b c] w (SoftOut 9221120237041090560 16 false w) := by
  go_enter Tryd.func39, Tryd.ntmps39
  go_wp2_with (first | (go_at_call_of 15 (Value.int IntKind.u64 a); refine (Ka.out _).mono ?_; rintro e w' ⟨rfl, rfl⟩) | (go_at_call 16; refine (bad_any _).mono ?_; rintro e w1 ⟨rfl, hb1⟩; obtain ⟨hc_, hf_⟩ := bcell1 hb1))
  all_goals refine bodyPost_ret (v := RES1 9221120237041090560 16 false) (by simp [results, Tryd.results39, go_sem, *]) rfl ⟨rfl, ?_⟩
  repeat' (first | with_reducible exact Below.refl _ _ | with_reducible assumption | with_reducible refine Below.drew ?_ | with_reducible refine bdrewN ?_ _ | with_reducible refine Below.alloc ?_ ?_ _ | with_reducible refine Below.setCell ?_ ?_ _ | with_reducible refine Below.trans ?_ (Below.mono (by assumption) ?_) | omega | (simp; done) | (simp; omega))
set_option maxRecDepth 100000 in
set_option maxHeartbeats 1000000 in
theorem rsqrt_inf (op m a b c : Nat) (Ka : Hid (∀ W, Calls Tryd.prog 15 #[.int .u64 a] W fun e w' => e = .returned (.int .i64 3) ∧ W = w')) (hs : (((a : Int) / 9223372036854775808 == 1) = false)) (w : World) :
    Calls Tryd.prog 39 #[REC op m a b c] w (SoftOut 0 0 false w) := by
  go_enter Tryd.func39, Tryd.ntmps39
  go_wp2_with (go_at_call_of 15 (Value.int IntKind.u64 a); refine (Ka.out _).mono ?_; rintro e w' ⟨rfl, rfl⟩)
  all_goals refine bodyPost_ret (v := RES1 0 0 false) (by simp [results, Tryd.results39, go_sem, *]) rfl ⟨rfl, ?_⟩
  repeat' (first | with_reducible exact Below.refl _ _ | with_reducible assumption | with_reducible refine Below.drew ?_ | with_reducible refine bdrewN ?_ _ | with_reducible refine Below.alloc ?_ ?_ _ | with_reducible refine Below.setCell ?_ ?_ _ | with_reducible refine Below.trans ?_ (Below.mono (by assumption) ?_) | omega | (simp; done) | (simp; omega))
set_option maxRecDepth 100000 in
set_option maxHeartbeats 1000000 in
theorem cbrt_inf (op m a b c : Nat) (Ka : Hid (∀ W, Calls Tryd.prog 15 #[.int .u64 a] W fun e w' => e = .returned (.int .i64 3) ∧ W = w')) (w : World) :
    Calls Tryd.prog 40 #[REC op m a b c] w (SoftOut a 0 false w) := by
  go_enter Tryd.func40, Tryd.ntmps40
  go_wp2_with (go_at_call_of 15 (Value.int IntKind.u64 a); refine (Ka.out _).mono ?_; rintro e w' ⟨rfl, rfl⟩)
  all_goals refine bodyPost_ret (v := RES1 a 0 false) (by simp [results, Tryd.results40, go_sem, *]) rfl ⟨rfl, ?_⟩
  repeat' (first | with_reducible exact Below.refl _ _ | with_reducible assumption | with_reducible refine Below.drew ?_ | with_reducible refine bdrewN ?_ _ | with_reducible refine Below.alloc ?_ ?_ _ | with_reducible refine Below.setCell ?_ ?_ _ | with_reducible refine Below.trans ?_ (Below.mono (by assumption) ?_) | omega | (simp; done) | (simp; omega))
set_option maxRecDepth 100000 in
set_option maxHeartbeats 1000000 in
theorem cbrt_z (op m a b c : Nat) (Ka : Hid (∀ W, Calls Tryd.prog 15 #[.int .u64 a] W fun e w' => e = .returned (.int .i64 0) ∧ W = w')) (w : World) :
    Calls Tryd.prog 40 #[REC op m a b c] w (SoftOut a 0 false w) := by
  go_enter Tryd.func40, Tryd.ntmps40
  go_wp2_with (go_at_call_of 15 (Value.int IntKind.u64 a); refine (Ka.out _).mono ?_; rintro e w' ⟨rfl, rfl⟩)
  all_goals refine bodyPost_ret (v := RES1 a 0 false) (by simp [results, Tryd.results40, go_sem, *]) rfl ⟨rfl, ?_⟩
  repeat' (first | with_reducible exact Below.refl _ _ | with_reducible assumption | with_reducible refine Below.drew ?_ | with_reducible refine bdrewN ?_ _ | with_reducible refine Below.alloc ?_ ?_ _ | with_reducible refine Below.setCell ?_ ?_ _ | with_reducible refine Below.trans ?_ (Below.mono (by assumption) ?_) | omega | (simp; done) | (simp; omega))
set_option maxRecDepth 100000 in
set_option maxHeartbeats 1000000 in
theorem sqrt_go (op m a b c ka : Nat) (Ka : Hid (∀ W, Calls Tryd.prog 15 #[.int .u64 a] W fun e w' => e = .returned (.int .i64 (ka : Int)) ∧ W = w')) (na l : Bool) (ea h : Int) (sa r bt fl : Nat) (Ua : Hid (∀ W, Calls Tryd.prog 44 #[.int .u64 a] W fun e w' => e = .returned (NV na ea sa false) ∧ Below W.heap.size W w')) (Ro : Hid (∀ W, Calls Tryd.prog 49 #[NV na ea sa false] W fun e w' => e = .returned (NV false h r l) ∧ Below W.heap.size W w')) (R : Hid (∀ W, Calls Tryd.prog 46 #[NV false h r l, .int .u8 m] W (SoftOut bt fl false W))) (hs : (((a : Int) / 9223372036854775808 == 1) = false)) (hka0 : ((ka : Int) == 0) = false) (hka3 : ((ka : Int) == 3) = false) (w : World) :
    Calls Tryd.prog 38 #[REC op m a b c] w (SoftOut bt fl false w) := by
  go_enter Tryd.func38, Tryd.ntmps38
  have hK_1 : RB w m a b c ((w.alloc (.cells #[.int .u8 op, .int .u8 m, .int .u64 a, .int .u64 b, .int .u64 c] 36)).alloc (.cells #[.int .u64 0, .int .u8 0, .bool false] 33)) := (RB.start op)
  have hK_0 : RB w m a b c (((w.alloc (.cells #[.int .u8 op, .int .u8 m, .int .u64 a, .int .u64 b, .int .u64 c] 36)).alloc (.cells #[.int .u64 0, .int .u8 0, .bool false] 33))).drew := (RB.start op).drew
  go_upto_region 5 with (go_at_call_of 15 (Value.int IntKind.u64 a); refine (Ka.out _).mono ?_; rintro e w' ⟨rfl, rfl⟩)
  go_region_held3 (fun w' => (w'.cell? ⟨w.heap.size, 1, none⟩ = some (.int .u8 m) ∧ w'.cell? ⟨w.heap.size, 2, none⟩ = some (.int .u64 a) ∧ w'.cell? ⟨w.heap.size, 3, none⟩ = some (.int .u64 b) ∧ w'.cell? ⟨w.heap.size, 4, none⟩ = some (.int .u64 c)))
    (first
      | with_reducible exact hS_w3
      | with_reducible exact hS_w2
      | with_reducible exact hS_w1
      | with_reducible exact hK_0.1
      | (refine ⟨?_, ?_, ?_, ?_⟩ <;> (go_simp; done))
      | go_keep)
    (first
      | (go_at_call_of 44 (Value.int IntKind.u64 a); refine (Ua.out _).mono ?_; rintro e w1 ⟨rfl, hb1⟩; have hK_w1 : RB w m a b c w1 := RB.step (by (repeat' (first | with_reducible assumption | refine RB.drew ?_ | refine RB.alloc ?_ _))) hb1; have hL_w1 := hK_w1; obtain ⟨hS_w1, ⟨hk0_w1, hk1_w1, hk2_w1⟩, ⟨hg0_w1, hg1_w1, hg2_w1⟩, _⟩ := hL_w1)
      | (go_at_call 49; refine (Ro.out _).mono ?_; rintro e w2 ⟨rfl, hb2⟩; have hK_w2 : RB w m a b c w2 := RB.step (by (repeat' (first | with_reducible assumption | refine RB.drew ?_ | refine RB.alloc ?_ _))) hb2; have hL_w2 := hK_w2; obtain ⟨hS_w2, ⟨hk0_w2, hk1_w2, hk2_w2⟩, ⟨hg0_w2, hg1_w2, hg2_w2⟩, _⟩ := hL_w2)
      | (go_at_call 46; refine (R.out _).mono ?_; rintro e w3 ⟨rfl, hb3⟩; have hK_w3 : RB w m a b c w3 := RB.step (by (repeat' (first | with_reducible assumption | refine RB.drew ?_ | refine RB.alloc ?_ _))) hb3; have hL_w3 := hK_w3; obtain ⟨hS_w3, ⟨hk0_w3, hk1_w3, hk2_w3⟩, ⟨hg0_w3, hg1_w3, hg2_w3⟩, _⟩ := hL_w3))
  go_wp2_with fail
  refine bodyPost_ret (v := RES1 bt fl false) (by simp [results, Tryd.results38, go_sem, *]) rfl ⟨rfl, ?_⟩
  exact hK_w3.laid _ _ _
end Go.Proofs.YtldmbneckcjonabDoor
namespace Go.Proofs.YtldmbneckcjonabDoor
open Go.RowKit
theorem nb_put4 {W : World} {g b : Nat} {n : Bool} {e : Int} {s : Nat} {l : Bool} (h : NB W g n e s l) (hb : b ≠ g) (v0 v1 v2 v3 : Value) : (((((W.setCell ⟨b, 0, none⟩ v0).setCell ⟨b, 1, none⟩ v1).setCell ⟨b, 2, none⟩ v2).setCell ⟨b, 3, none⟩ v3).cell? ⟨g, 0, none⟩ = some (Value.bool (n)) ∧ ((((W.setCell ⟨b, 0, none⟩ v0).setCell ⟨b, 1, none⟩ v1).setCell ⟨b, 2, none⟩ v2).setCell ⟨b, 3, none⟩ v3).cell? ⟨g, 1, none⟩ = some (Value.int .i64 (e)) ∧ ((((W.setCell ⟨b, 0, none⟩ v0).setCell ⟨b, 1, none⟩ v1).setCell ⟨b, 2, none⟩ v2).setCell ⟨b, 3, none⟩ v3).cell? ⟨g, 2, none⟩ = some (Value.int .u64 (wd 0 (s))) ∧ ((((W.setCell ⟨b, 0, none⟩ v0).setCell ⟨b, 1, none⟩ v1).setCell ⟨b, 2, none⟩ v2).setCell ⟨b, 3, none⟩ v3).cell? ⟨g, 3, none⟩ = some (Value.int .u64 (wd 1 (s))) ∧ ((((W.setCell ⟨b, 0, none⟩ v0).setCell ⟨b, 1, none⟩ v1).setCell ⟨b, 2, none⟩ v2).setCell ⟨b, 3, none⟩ v3).cell? ⟨g, 4, none⟩ = some (Value.int .u64 (wd 2 (s))) ∧ ((((W.setCell ⟨b, 0, none⟩ v0).setCell ⟨b, 1, none⟩ v1).setCell ⟨b, 2, none⟩ v2).setCell ⟨b, 3, none⟩ v3).cell? ⟨g, 5, none⟩ = some (Value.int .u64 (wd 3 (s))) ∧ ((((W.setCell ⟨b, 0, none⟩ v0).setCell ⟨b, 1, none⟩ v1).setCell ⟨b, 2, none⟩ v2).setCell ⟨b, 3, none⟩ v3).cell? ⟨g, 6, none⟩ = some (Value.bool (l))) := (h.put4 hb v0 v1 v2 v3).1
theorem cell_put3 {W : World} {b : Nat} {p : Addr} {v : Value} (h : W.cell? p = some v) (hb : b ≠ p.block) (v0 v1 v2 : Value) : (((W.setCell ⟨b, 0, none⟩ v0).setCell ⟨b, 1, none⟩ v1).setCell ⟨b, 2, none⟩ v2).cell? p = some v := by
  have ne : ∀ i : Nat, (⟨b, i, none⟩ : Addr) ≠ p := fun i e => hb (by rw [← e])
  exact (World.cell?_setCell_other _ _ _ _ (ne 2)).trans ((World.cell?_setCell_other _ _ _ _ (ne 1)).trans ((World.cell?_setCell_other _ _ _ _ (ne 0)).trans h))
theorem s10_put3 {w W : World} {g g7 B m a b c : Nat} {na : Bool} {ea : Int} {sa Q : Nat} (h : ((W.cell? ⟨w.heap.size, 1, none⟩ = some (.int .u8 m) ∧ W.cell? ⟨w.heap.size, 2, none⟩ = some (.int .u64 a) ∧ W.cell? ⟨w.heap.size, 3, none⟩ = some (.int .u64 b) ∧ W.cell? ⟨w.heap.size, 4, none⟩ = some (.int .u64 c)) ∧ (W.cell? ⟨g, 0, none⟩ = some (Value.bool (na)) ∧ W.cell? ⟨g, 1, none⟩ = some (Value.int .i64 (ea)) ∧ W.cell? ⟨g, 2, none⟩ = some (Value.int .u64 (wd 0 (sa))) ∧ W.cell? ⟨g, 3, none⟩ = some (Value.int .u64 (wd 1 (sa))) ∧ W.cell? ⟨g, 4, none⟩ = some (Value.int .u64 (wd 2 (sa))) ∧ W.cell? ⟨g, 5, none⟩ = some (Value.int .u64 (wd 3 (sa))) ∧ W.cell? ⟨g, 6, none⟩ = some (Value.bool (false))) ∧ (W.cell? ⟨g7, 0, none⟩ = some (.int .u64 (wd 0 Q)) ∧ W.cell? ⟨g7, 1, none⟩ = some (.int .u64 (wd 1 Q)) ∧ W.cell? ⟨g7, 2, none⟩ = some (.int .u64 (wd 2 Q)) ∧ W.cell? ⟨g7, 3, none⟩ = some (.int .u64 (wd 3 Q))))) (h1 : B ≠ w.heap.size) (h2 : B ≠ g) (h3 : B ≠ g7) (v0 v1 v2 : Value) : (((((W.setCell ⟨B, 0, none⟩ v0).setCell ⟨B, 1, none⟩ v1).setCell ⟨B, 2, none⟩ v2).cell? ⟨w.heap.size, 1, none⟩ = some (.int .u8 m) ∧ (((W.setCell ⟨B, 0, none⟩ v0).setCell ⟨B, 1, none⟩ v1).setCell ⟨B, 2, none⟩ v2).cell? ⟨w.heap.size, 2, none⟩ = some (.int .u64 a) ∧ (((W.setCell ⟨B, 0, none⟩ v0).setCell ⟨B, 1, none⟩ v1).setCell ⟨B, 2, none⟩ v2).cell? ⟨w.heap.size, 3, none⟩ = some (.int .u64 b) ∧ (((W.setCell ⟨B, 0, none⟩ v0).setCell ⟨B, 1, none⟩ v1).setCell ⟨B, 2, none⟩ v2).cell? ⟨w.heap.size, 4, none⟩ = some (.int .u64 c)) ∧ ((((W.setCell ⟨B, 0, none⟩ v0).setCell ⟨B, 1, none⟩ v1).setCell ⟨B, 2, none⟩ v2).cell? ⟨g, 0, none⟩ = some (Value.bool (na)) ∧ (((W.setCell ⟨B, 0, none⟩ v0).setCell ⟨B, 1, none⟩ v1).setCell ⟨B, 2, none⟩ v2).cell? ⟨g, 1, none⟩ = some (Value.int .i64 (ea)) ∧ (((W.setCell ⟨B, 0, none⟩ v0).setCell ⟨B, 1, none⟩ v1).setCell ⟨B, 2, none⟩ v2).cell? ⟨g, 2, none⟩ = some (Value.int .u64 (wd 0 (sa))) ∧ (((W.setCell ⟨B, 0, none⟩ v0).setCell ⟨B, 1, none⟩ v1).setCell ⟨B, 2, none⟩ v2).cell? ⟨g, 3, none⟩ = some (Value.int .u64 (wd 1 (sa))) ∧ (((W.setCell ⟨B, 0, none⟩ v0).setCell ⟨B, 1, none⟩ v1).setCell ⟨B, 2, none⟩ v2).cell? ⟨g, 4, none⟩ = some (Value.int .u64 (wd 2 (sa))) ∧ (((W.setCell ⟨B, 0, none⟩ v0).setCell ⟨B, 1, none⟩ v1).setCell ⟨B, 2, none⟩ v2).cell? ⟨g, 5, none⟩ = some (Value.int .u64 (wd 3 (sa))) ∧ (((W.setCell ⟨B, 0, none⟩ v0).setCell ⟨B, 1, none⟩ v1).setCell ⟨B, 2, none⟩ v2).cell? ⟨g, 6, none⟩ = some (Value.bool (false))) ∧ ((((W.setCell ⟨B, 0, none⟩ v0).setCell ⟨B, 1, none⟩ v1).setCell ⟨B, 2, none⟩ v2).cell? ⟨g7, 0, none⟩ = some (.int .u64 (wd 0 Q)) ∧ (((W.setCell ⟨B, 0, none⟩ v0).setCell ⟨B, 1, none⟩ v1).setCell ⟨B, 2, none⟩ v2).cell? ⟨g7, 1, none⟩ = some (.int .u64 (wd 1 Q)) ∧ (((W.setCell ⟨B, 0, none⟩ v0).setCell ⟨B, 1, none⟩ v1).setCell ⟨B, 2, none⟩ v2).cell? ⟨g7, 2, none⟩ = some (.int .u64 (wd 2 Q)) ∧ (((W.setCell ⟨B, 0, none⟩ v0).setCell ⟨B, 1, none⟩ v1).setCell ⟨B, 2, none⟩ v2).cell? ⟨g7, 3, none⟩ = some (.int .u64 (wd 3 Q)))) := by
  obtain ⟨⟨a1, a2, a3, a4⟩, ⟨b0, b1, b2, b3, b4, b5, b6⟩, c0, c1, c2, c3⟩ := h
  exact ⟨⟨cell_put3 a1 h1 _ _ _, cell_put3 a2 h1 _ _ _, cell_put3 a3 h1 _ _ _, cell_put3 a4 h1 _ _ _⟩, ⟨cell_put3 b0 h2 _ _ _, cell_put3 b1 h2 _ _ _, cell_put3 b2 h2 _ _ _, cell_put3 b3 h2 _ _ _, cell_put3 b4 h2 _ _ _, cell_put3 b5 h2 _ _ _, cell_put3 b6 h2 _ _ _⟩, cell_put3 c0 h3 _ _ _, cell_put3 c1 h3 _ _ _, cell_put3 c2 h3 _ _ _, cell_put3 c3 h3 _ _ _⟩
set_option maxRecDepth 100000 in
set_option maxHeartbeats 4000000 in
theorem rsqrt_go (op m a b c ka : Nat) (Ka : Hid (∀ W, Calls Tryd.prog 15 #[.int .u64 a] W fun e w' => e = .returned (.int .i64 (ka : Int)) ∧ W = w')) (na lq l : Bool) (ea E h : Int) (sa Q N r bt fl : Nat) (Ua : Hid (∀ W, Calls Tryd.prog 44 #[.int .u64 a] W fun e w' => e = .returned (NV na ea sa false) ∧ Below W.heap.size W w')) (SH : Hid (∀ W, Calls Tryd.prog 48 #[.agg #[.int .u64 1, .int .u64 0, .int .u64 0, .int .u64 0], .int .i64 252] W fun e w' => e = .returned (W4 N) ∧ Below W.heap.size W w'))
    (DV : Hid (∀ W, Calls Tryd.prog 47 #[W4 N, .int .u64 (wd 0 sa)] W fun e w' => e = .returned (.tuple #[W4 Q, .bool lq]) ∧ Below W.heap.size W w'))
    (hE0 : IntKind.i64.wrap (-252 - ea) = E) (hE1 : wrap64 (-252 - ea) = E)
    (Ro : Hid (∀ W, Calls Tryd.prog 49 #[NV false E Q lq] W fun e w' => e = .returned (NV false h r l) ∧ Below W.heap.size W w')) (R : Hid (∀ W, Calls Tryd.prog 46 #[NV false h r l, .int .u8 m] W (SoftOut bt fl false W)))
    (hs : (((a : Int) / 9223372036854775808 == 1) = false)) (hka0 : ((ka : Int) == 0) = false) (hka3 : ((ka : Int) == 3) = false)(w : World) : Calls Tryd.prog 39 #[REC op m a b c] w (SoftOut bt fl false w) := by
  go_enter Tryd.func39, Tryd.ntmps39
  go_upto_region 8 with (go_at_call_of 15 (Value.int IntKind.u64 a); refine (Ka.out _).mono ?_; rintro e w' ⟨rfl, rfl⟩)
  go_cut [4] (fun s4 wx => ∃ g : Nat, s4 = .pointer (some ⟨g, 0, none⟩) ∧ NB wx g na ea sa false ∧ RB w m a b c wx)
  case first =>
    go_wp2_with fail
    refine (Ua.out _).mono ?_
    rintro e w1 ⟨rfl, hb1⟩
    have hKu : RB w m a b c w1 := RB.step (RB.start op) hb1
    have hsz := hKu.2.2.2.1
    go_wp2_with fail
    go_meet
    refine ⟨_, rfl, ?_, by repeat' (first | with_reducible assumption | with_reducible refine RB.drew ?_ | with_reducible refine RB.alloc ?_ _ | with_reducible refine RB.put7 ?_ (by omega) _ _ _ _ _ _ _)⟩
    repeat' (first | with_reducible assumption | with_reducible refine NB.put7 (n := false) (e := 0) (s := 0) (l := false) ?_ | with_reducible refine NB.far7 ?_ (by omega) _ _ _ _ _ _ _ | with_reducible exact NB.zeroAt (by first | rfl | (simp; done)) | with_reducible exact NB.newAt (by first | rfl | (simp; done)) | with_reducible refine NB.alloc ?_ _ | with_reducible refine NB.drew ?_)
  case rest =>
    obtain ⟨g, rfl, p0, hK⟩ := hcut
    clear Ka Ua hs hka0 hka3
    have hKm := hK.1.1
    have q0 := p0
    obtain ⟨⟨x0, x1, x2, x3, x4, x5, x6⟩, xf0, xf1, xf2, xf3, xf4, xf5, xf6⟩ := q0
    go_upto_region 9 with (fail)
    go_cut [5, 6] (fun s5 s6 wx => ∃ g7 : Nat, s5 = .pointer (some ⟨g7, 0, none⟩) ∧ s6 = .bool lq ∧ K4 wx g7 (.int .u64 (wd 0 Q)) (.int .u64 (wd 1 Q)) (.int .u64 (wd 2 Q)) (.int .u64 (wd 3 Q)) ∧ NB wx g na ea sa false ∧ RB w m a b c wx)
    case first =>
      have hS_0 := p0.1
      have hl0 := p0.lt
      have hzX := hK.2.2.2.1
      go_region_held3 (fun w' => (w'.cell? ⟨g, 0, none⟩ = some (Value.bool (na)) ∧ w'.cell? ⟨g, 1, none⟩ = some (Value.int .i64 (ea)) ∧ w'.cell? ⟨g, 2, none⟩ = some (Value.int .u64 (wd 0 (sa))) ∧ w'.cell? ⟨g, 3, none⟩ = some (Value.int .u64 (wd 1 (sa))) ∧ w'.cell? ⟨g, 4, none⟩ = some (Value.int .u64 (wd 2 (sa))) ∧ w'.cell? ⟨g, 5, none⟩ = some (Value.int .u64 (wd 3 (sa))) ∧ w'.cell? ⟨g, 6, none⟩ = some (Value.bool (false))))
        (first
          | with_reducible exact hS_4
          | with_reducible exact nb_put4 p_4 (by omega) _ _ _ _
          | with_reducible exact nb_put4 (p_4.alloc _) (by first | (simp; omega) | omega) _ _ _ _
          | with_reducible exact hS_3
          | with_reducible exact hS_0
          | go_keep)
        (first
          | (go_at_call 48; refine (SH.out _).mono ?_; rintro e w3 ⟨rfl, hb3⟩; have p_3 : NB w3 g na ea sa false := NB.call (by repeat' (first | with_reducible assumption | refine NB.drew ?_ | refine NB.alloc ?_ _)) hb3; have hS_3 := p_3.1; have hl_3 := p_3.lt; have hK_3 : RB w m a b c w3 := RB.step (by repeat' (first | with_reducible assumption | refine RB.drew ?_ | refine RB.alloc ?_ _)) hb3; have hz_w3 := hb3.size; (try simp at hz_w3); (try ((first | have zq3 := K4.call (K4.new _ _ _ _ _ _) hb3 | have zq3 := K4.call (K4.drew (K4.new _ _ _ _ _ _)) hb3 | have zq3 := K4.call (K4.drew (K4.drew (K4.new _ _ _ _ _ _))) hb3); (try simp at zq3); have zq3k := zq3; have hl_zq3 := zq3.lt; obtain ⟨⟨zz0, zz1, zz2, zz3⟩, zy0, zy1, zy2, zy3⟩ := zq3)))
          | (go_at_call 47; refine (DV.out _).mono ?_; rintro e w4 ⟨rfl, hb4⟩; have p_4 : NB w4 g na ea sa false := NB.call (by repeat' (first | with_reducible assumption | refine NB.drew ?_ | refine NB.alloc ?_ _)) hb4; have hS_4 := p_4.1; have hl_4 := p_4.lt; have hK_4 : RB w m a b c w4 := RB.step (by repeat' (first | with_reducible assumption | refine RB.drew ?_ | refine RB.alloc ?_ _)) hb4; have hz_w4 := hb4.size; (try simp at hz_w4); (try ((first | have zq4 := K4.call (K4.new _ _ _ _ _ _) hb4 | have zq4 := K4.call (K4.drew (K4.new _ _ _ _ _ _)) hb4 | have zq4 := K4.call (K4.drew (K4.drew (K4.new _ _ _ _ _ _))) hb4); (try simp at zq4); have zq4k := zq4; have hl_zq4 := zq4.lt; obtain ⟨⟨zz0, zz1, zz2, zz3⟩, zy0, zy1, zy2, zy3⟩ := zq4)); (try ((first | have zq5 := K4.call zq3k hb4 | have zq5 := K4.call (K4.drew zq3k) hb4); (try simp at zq5); have zq5k := zq5; have hl_zq5 := zq5.lt; obtain ⟨⟨zz0, zz1, zz2, zz3⟩, zy0, zy1, zy2, zy3⟩ := zq5))))
      all_goals
        go_wp2_with fail
        go_meet
        refine ⟨_, rfl, rfl, ?_, by repeat' (first | with_reducible assumption | with_reducible refine NB.drew ?_ | with_reducible refine NB.alloc ?_ _ | with_reducible refine NB.put4 ?_ (by omega) _ _ _ _), by repeat' (first | with_reducible assumption | with_reducible refine RB.drew ?_ | with_reducible refine RB.alloc ?_ _ | with_reducible refine RB.put4 ?_ (by omega) _ _ _ _)⟩
        refine ⟨⟨?_, ?_, ?_, ?_⟩, ?_, ?_, ?_, ?_⟩ <;> (go_simp; done)
    case rest =>
      obtain ⟨g7, rfl, rfl, z0, p1, hK1⟩ := hcut
      clear p0 hK hKm x0 x1 x2 x3 x4 x5 x6 xf0 xf1 xf2 xf3 xf4 xf5 xf6 SH DV
      have hKm := hK1.1.1
      have hS_1 : ((wc.cell? ⟨w.heap.size, 1, none⟩ = some (.int .u8 m) ∧ wc.cell? ⟨w.heap.size, 2, none⟩ = some (.int .u64 a) ∧ wc.cell? ⟨w.heap.size, 3, none⟩ = some (.int .u64 b) ∧ wc.cell? ⟨w.heap.size, 4, none⟩ = some (.int .u64 c)) ∧ (wc.cell? ⟨g, 0, none⟩ = some (Value.bool (na)) ∧ wc.cell? ⟨g, 1, none⟩ = some (Value.int .i64 (ea)) ∧ wc.cell? ⟨g, 2, none⟩ = some (Value.int .u64 (wd 0 (sa))) ∧ wc.cell? ⟨g, 3, none⟩ = some (Value.int .u64 (wd 1 (sa))) ∧ wc.cell? ⟨g, 4, none⟩ = some (Value.int .u64 (wd 2 (sa))) ∧ wc.cell? ⟨g, 5, none⟩ = some (Value.int .u64 (wd 3 (sa))) ∧ wc.cell? ⟨g, 6, none⟩ = some (Value.bool (false))) ∧ (wc.cell? ⟨g7, 0, none⟩ = some (.int .u64 (wd 0 Q)) ∧ wc.cell? ⟨g7, 1, none⟩ = some (.int .u64 (wd 1 Q)) ∧ wc.cell? ⟨g7, 2, none⟩ = some (.int .u64 (wd 2 Q)) ∧ wc.cell? ⟨g7, 3, none⟩ = some (.int .u64 (wd 3 Q)))) := ⟨hK1.1, p1.1, z0.1⟩
      have hl7 := z0.lt
      have hl1 := p1.lt
      have hne : w.heap.size + 1 ≠ g := fun e => by have h := p1.1.1; rw [← e, hK1.2.1.1] at h; exact absurd h (by simp)
      have hne7 : w.heap.size + 1 ≠ g7 := fun e => by have h := z0.1.2.1; rw [← e, hK1.2.1.2.1] at h; exact absurd h (by simp)
      go_upto_region 10 with (fail)
      go_region_held3 (fun w' => ((w'.cell? ⟨w.heap.size, 1, none⟩ = some (.int .u8 m) ∧ w'.cell? ⟨w.heap.size, 2, none⟩ = some (.int .u64 a) ∧ w'.cell? ⟨w.heap.size, 3, none⟩ = some (.int .u64 b) ∧ w'.cell? ⟨w.heap.size, 4, none⟩ = some (.int .u64 c)) ∧ (w'.cell? ⟨g, 0, none⟩ = some (Value.bool (na)) ∧ w'.cell? ⟨g, 1, none⟩ = some (Value.int .i64 (ea)) ∧ w'.cell? ⟨g, 2, none⟩ = some (Value.int .u64 (wd 0 (sa))) ∧ w'.cell? ⟨g, 3, none⟩ = some (Value.int .u64 (wd 1 (sa))) ∧ w'.cell? ⟨g, 4, none⟩ = some (Value.int .u64 (wd 2 (sa))) ∧ w'.cell? ⟨g, 5, none⟩ = some (Value.int .u64 (wd 3 (sa))) ∧ w'.cell? ⟨g, 6, none⟩ = some (Value.bool (false))) ∧ (w'.cell? ⟨g7, 0, none⟩ = some (.int .u64 (wd 0 Q)) ∧ w'.cell? ⟨g7, 1, none⟩ = some (.int .u64 (wd 1 Q)) ∧ w'.cell? ⟨g7, 2, none⟩ = some (.int .u64 (wd 2 Q)) ∧ w'.cell? ⟨g7, 3, none⟩ = some (.int .u64 (wd 3 Q)))))
        (first
          | with_reducible exact hS_6
          | with_reducible exact s10_put3 hS_6 (by omega) hne hne7 _ _ _
          | with_reducible exact hS_5
          | with_reducible exact hS_1
          | go_keep)
        (first
          | (go_at_call 49; refine (Ro.out _).mono ?_; rintro e w5 ⟨rfl, hb5⟩; have p_5 : NB w5 g na ea sa false := NB.call (by repeat' (first | with_reducible assumption | refine NB.drew ?_ | refine NB.alloc ?_ _)) hb5; have z_5 : K4 w5 g7 (.int .u64 (wd 0 Q)) (.int .u64 (wd 1 Q)) (.int .u64 (wd 2 Q)) (.int .u64 (wd 3 Q)) := K4.call (by repeat' (first | with_reducible assumption | refine K4.drew ?_ | refine K4.alloc ?_ (by omega) _)) hb5; have hK_5 : RB w m a b c w5 := RB.step (by repeat' (first | with_reducible assumption | refine RB.drew ?_ | refine RB.alloc ?_ _)) hb5; have hL_5 := hK_5; obtain ⟨hR_5, ⟨hk0_5, hk1_5, hk2_5⟩, ⟨hg0_5, hg1_5, hg2_5⟩, _⟩ := hL_5; have hS_5 : ((w5.cell? ⟨w.heap.size, 1, none⟩ = some (.int .u8 m) ∧ w5.cell? ⟨w.heap.size, 2, none⟩ = some (.int .u64 a) ∧ w5.cell? ⟨w.heap.size, 3, none⟩ = some (.int .u64 b) ∧ w5.cell? ⟨w.heap.size, 4, none⟩ = some (.int .u64 c)) ∧ (w5.cell? ⟨g, 0, none⟩ = some (Value.bool (na)) ∧ w5.cell? ⟨g, 1, none⟩ = some (Value.int .i64 (ea)) ∧ w5.cell? ⟨g, 2, none⟩ = some (Value.int .u64 (wd 0 (sa))) ∧ w5.cell? ⟨g, 3, none⟩ = some (Value.int .u64 (wd 1 (sa))) ∧ w5.cell? ⟨g, 4, none⟩ = some (Value.int .u64 (wd 2 (sa))) ∧ w5.cell? ⟨g, 5, none⟩ = some (Value.int .u64 (wd 3 (sa))) ∧ w5.cell? ⟨g, 6, none⟩ = some (Value.bool (false))) ∧ (w5.cell? ⟨g7, 0, none⟩ = some (.int .u64 (wd 0 Q)) ∧ w5.cell? ⟨g7, 1, none⟩ = some (.int .u64 (wd 1 Q)) ∧ w5.cell? ⟨g7, 2, none⟩ = some (.int .u64 (wd 2 Q)) ∧ w5.cell? ⟨g7, 3, none⟩ = some (.int .u64 (wd 3 Q)))) := ⟨hR_5, p_5.1, z_5.1⟩)
          | (go_at_call 46; refine (R.out _).mono ?_; rintro e w6 ⟨rfl, hb6⟩; have p_6 : NB w6 g na ea sa false := NB.call (by repeat' (first | with_reducible assumption | refine NB.drew ?_ | refine NB.alloc ?_ _)) hb6; have z_6 : K4 w6 g7 (.int .u64 (wd 0 Q)) (.int .u64 (wd 1 Q)) (.int .u64 (wd 2 Q)) (.int .u64 (wd 3 Q)) := K4.call (by repeat' (first | with_reducible assumption | refine K4.drew ?_ | refine K4.alloc ?_ (by omega) _)) hb6; have hK_6 : RB w m a b c w6 := RB.step (by repeat' (first | with_reducible assumption | refine RB.drew ?_ | refine RB.alloc ?_ _)) hb6; have hL_6 := hK_6; obtain ⟨hR_6, ⟨hk0_6, hk1_6, hk2_6⟩, ⟨hg0_6, hg1_6, hg2_6⟩, _⟩ := hL_6; have hS_6 : ((w6.cell? ⟨w.heap.size, 1, none⟩ = some (.int .u8 m) ∧ w6.cell? ⟨w.heap.size, 2, none⟩ = some (.int .u64 a) ∧ w6.cell? ⟨w.heap.size, 3, none⟩ = some (.int .u64 b) ∧ w6.cell? ⟨w.heap.size, 4, none⟩ = some (.int .u64 c)) ∧ (w6.cell? ⟨g, 0, none⟩ = some (Value.bool (na)) ∧ w6.cell? ⟨g, 1, none⟩ = some (Value.int .i64 (ea)) ∧ w6.cell? ⟨g, 2, none⟩ = some (Value.int .u64 (wd 0 (sa))) ∧ w6.cell? ⟨g, 3, none⟩ = some (Value.int .u64 (wd 1 (sa))) ∧ w6.cell? ⟨g, 4, none⟩ = some (Value.int .u64 (wd 2 (sa))) ∧ w6.cell? ⟨g, 5, none⟩ = some (Value.int .u64 (wd 3 (sa))) ∧ w6.cell? ⟨g, 6, none⟩ = some (Value.bool (false))) ∧ (w6.cell? ⟨g7, 0, none⟩ = some (.int .u64 (wd 0 Q)) ∧ w6.cell? ⟨g7, 1, none⟩ = some (.int .u64 (wd 1 Q)) ∧ w6.cell? ⟨g7, 2, none⟩ = some (.int .u64 (wd 2 Q)) ∧ w6.cell? ⟨g7, 3, none⟩ = some (.int .u64 (wd 3 Q)))) := ⟨hR_6, p_6.1, z_6.1⟩))
      all_goals
        go_wp2_with fail
        refine bodyPost_ret (v := RES1 bt fl false) (by simp [results, Tryd.results39, go_sem, *]) rfl ⟨rfl, ?_⟩
        exact hK_6.laid _ _ _
set_option maxRecDepth 100000 in
set_option maxHeartbeats 4000000 in
theorem cbrt_go (op m a b c ka kf : Nat) (Ka : Hid (∀ W, Calls Tryd.prog 15 #[.int .u64 a] W fun e w' => e = .returned (.int .i64 (ka : Int)) ∧ W = w')) (na lq : Bool) (ea E : Int) (sa N q bt fl : Nat) (Ua : Hid (∀ W, Calls Tryd.prog 44 #[.int .u64 a] W fun e w' => e = .returned (NV na ea sa false) ∧ Below W.heap.size W w')) (hk0 : 128 ≤ kf) (hk1 : kf ≤ 130)
    (hmod : Hid (∀ j : Nat, 128 ≤ j → j < kf → ((ea - j).tmod 3 != 0) = true)) (hfin : ((ea - kf).tmod 3 != 0) = false) (hw : Hid (∀ j : Nat, j ≤ 130 → wrap64 (ea - j) = ea - j)) (hd : (ea - kf).tdiv 3 = E) (hE0 : wrap64 E = E)
    (SH : Hid (∀ W, Calls Tryd.prog 48 #[W4 sa, .int .i64 kf] W fun e w' => e = .returned (W4 N) ∧ Below W.heap.size W w'))
    (CU : Hid (∀ W, Calls Tryd.prog 50 #[W4 N] W fun e w' => e = .returned (.tuple #[.int .u64 q, .bool lq]) ∧ Below W.heap.size W w'))
    (R : Hid (∀ W, Calls Tryd.prog 46 #[.agg #[.bool na, .int .i64 E, .int .u64 q, .int .u64 0, .int .u64 0, .int .u64 0, .bool lq], .int .u8 m] W (SoftOut bt fl false W)))
    (hka0 : ((ka : Int) == 0) = false) (hka3 : ((ka : Int) == 3) = false)(w : World) : Calls Tryd.prog 40 #[REC op m a b c] w (SoftOut bt fl false w) := by
  go_enter Tryd.func40, Tryd.ntmps40
  go_upto_region 5 with (go_at_call_of 15 (Value.int IntKind.u64 a); refine (Ka.out _).mono ?_; rintro e w' ⟨rfl, rfl⟩)
  go_cut [3] (fun s4 wx => ∃ g : Nat, s4 = .pointer (some ⟨g, 0, none⟩) ∧ NB wx g na ea sa false ∧ RB w m a b c wx)
  case first =>
    go_wp2_with fail
    refine (Ua.out _).mono ?_
    rintro e w1 ⟨rfl, hb1⟩
    have hKu : RB w m a b c w1 := RB.step (RB.start op) hb1
    have hsz := hKu.2.2.2.1
    go_wp2_with fail
    go_meet
    refine ⟨_, rfl, ?_, by repeat' (first | with_reducible assumption | with_reducible refine RB.drew ?_ | with_reducible refine RB.alloc ?_ _ | with_reducible refine RB.put7 ?_ (by omega) _ _ _ _ _ _ _)⟩
    repeat' (first | with_reducible assumption | with_reducible refine NB.put7 (n := false) (e := 0) (s := 0) (l := false) ?_ | with_reducible refine NB.far7 ?_ (by omega) _ _ _ _ _ _ _ | with_reducible exact NB.zeroAt (by first | rfl | (simp; done)) | with_reducible exact NB.newAt (by first | rfl | (simp; done)) | with_reducible refine NB.alloc ?_ _ | with_reducible refine NB.drew ?_)
  case rest =>
    obtain ⟨g, rfl, p0, hK⟩ := hcut
    clear Ka Ua hka0 hka3
    have hKm := hK.1.1
    have q0 := p0
    obtain ⟨⟨x0, x1, x2, x3, x4, x5, x6⟩, xf0, xf1, xf2, xf3, xf4, xf5, xf6⟩ := q0
    go_wp2_with fail
    go_loop [4] (fun k => ∃ j : Nat, k = .int .i64 j ∧ 128 ≤ j ∧ j ≤ kf) (fun k => kf - (intOf k).toNat)
    case atStart => exact ⟨128, rfl, by omega, hk0⟩
    case round =>
      obtain ⟨j, rfl, hj0, hj1⟩ := hrel
      have hwj := hw.out j (by omega)
      by_cases hj : j < kf
      · have hm := hmod.out j hj0 hj
        clear hfin hd
        go_wp2_with fail
        go_round
        case rel => exact ⟨j + 1, rfl, by omega, by omega⟩
        case measure => simp [intOf]; omega
      · obtain rfl : j = kf := by omega
        clear hj hj1
        go_wp2_with fail
        refine (SH.out _).mono ?_
        rintro e w3 ⟨rfl, hb3⟩
        have p_3 : NB w3 g na ea sa false := NB.call p0 hb3
        have hK_3 : RB w m a b c w3 := RB.step hK hb3
        clear p0 hK hKm hb3 SH x0 x1 x2 x3 x4 x5 x6 xf0 xf1 xf2 xf3 xf4 xf5 xf6 hmod hw
        go_wp2_with fail
        refine (CU.out _).mono ?_
        rintro e w4 ⟨rfl, hb4⟩
        have p_4 : NB w4 g na ea sa false := NB.call p_3 hb4
        have hK_4 : RB w m a b c w4 := RB.step hK_3 hb4
        clear p_3 hK_3 hb4 CU
        have hKm := hK_4.1.1
        obtain ⟨⟨x0, x1, x2, x3, x4, x5, x6⟩, xf0, xf1, xf2, xf3, xf4, xf5, xf6⟩ := p_4
        go_wp2_with fail
        refine (R.out _).mono ?_
        rintro e w5 ⟨rfl, hb5⟩
        have hK5 := hK_4.step hb5
        have hL5 := hK5
        obtain ⟨_, ⟨k0, k1, k2⟩, ⟨f0, f1, f2⟩, _⟩ := hL5
        go_wp2_with fail
        refine bodyPost_ret (v := RES1 bt fl false) (by simp [results, Tryd.results40, go_sem, *]) rfl ⟨rfl, ?_⟩
        exact hK5.laid _ _ _
end Go.Proofs.YtldmbneckcjonabDoor
namespace Go.Proofs.YtldmbneckcjonabDoor
open Go.RowKit
theorem sig_bl {a : Nat} (ha : exN a ≠ 0) : bl (sigU a) = 53 := by
  obtain ⟨j, _, _, _, h5⟩ := norm_rel a
  exact h5 ha
theorem sqrt_any (op m a b c : Nat) (hm : m < 5) (ua : U64 a) (w : World) : Calls Tryd.prog 38 #[REC op m a b c] w (SoftOut (sqrtS m a).1 (sqrtS m a).2 false w) := by
  have Ka := Lib.hid (fun W => kindOf_any a W)
  have za := kind_zero (x := a)
  by_cases h1 : kindN a = 0
  · have e : sqrtS m a = (a, 0) := by unfold sqrtS; rw [if_pos h1]
    rw [e]; rw [h1] at Ka
    exact sqrt_z op m a b c Ka w
  · cases hn : negU a with
    | true =>
      have e : sqrtS m a = (9221120237041090560, 16) := by unfold sqrtS; rw [if_neg h1, if_pos hn]
      rw [e]
      exact sqrt_neg op m a b c _ Ka (nef (n := 0) h1) ((neg_div a).trans hn) w
    | false =>
      by_cases h3 : kindN a = 3
      · have e : sqrtS m a = (a, 0) := by unfold sqrtS; rw [if_neg h1, if_neg (by rw [hn]; decide), if_pos h3]
        rw [e]; rw [h3] at Ka
        exact sqrt_inf op m a b c Ka ((neg_div a).trans hn) w
      · have e : sqrtS m a = sqrtV m a := by unfold sqrtS; rw [if_neg h1, if_neg (by rw [hn]; decide), if_neg h3]
        rw [e]
        have ha : exN a ≠ 0 := by omega
        have hs := sig_bl ha
        have hs0 : sigU a ≠ 0 := by rw [Ne, sigU_zero]; exact ha
        have b1 := expU_bounds a
        obtain ⟨k, h, k1, k2, k3, hu, hr0, Ro⟩ := rooted_any (n := negU a) (l := false) (e := expU a) hs0 (by omega) (by omega) (by omega)
        rw [Bool.or_false] at Ro
        rw [← sqrt_soft ha k1 (by omega) (by omega) (rootN_is _)]
        exact sqrt_go op m a b c _ Ka _ _ _ _ _ _ _ _ (fun W => unpack_any a ua W) Ro (fun W => round_any _ _ _ _ m hu hr0 hm (by omega) (by omega) W) ((neg_div a).trans hn) (nef (n := 0) h1) (nef (n := 3) h3) w
theorem u256_252 : U256 (2 ^ 252) := by unfold U256; decide
theorem shl_252 (W : World) : Calls Tryd.prog 48 #[.agg #[.int .u64 1, .int .u64 0, .int .u64 0, .int .u64 0], .int .i64 252] W fun e w' => e = .returned (W4 (2 ^ 252)) ∧ Below W.heap.size W w' := by
  have h1 : U64 1 := by unfold U64; decide
  have h0 : U256 1 := by unfold U256; decide
  have := Shl_any 1 h0 252 (by decide) (by decide) W
  rw [show (252 : Int).toNat = 252 from rfl, shlN_eq (by rw [Nat.one_mul]; exact u256_252), Nat.one_mul, small_words h1] at this
  exact this
theorem rsqrt_any (op m a b c : Nat) (hm : m < 5) (ua : U64 a) (w : World) : Calls Tryd.prog 39 #[REC op m a b c] w (SoftOut (rsqrtS m a).1 (rsqrtS m a).2 false w) := by
  have Ka := Lib.hid (fun W => kindOf_any a W)
  have za := kind_zero (x := a)
  by_cases h1 : kindN a = 0
  · have e : rsqrtS m a = (signN (negU a) + 9218868437227405312, 8) := by unfold rsqrtS; rw [if_pos h1]
    rw [e]; rw [h1] at Ka
    have hor := or_sign (negU a) 9218868437227405312 (by omega)
    rw [← kind0_sign ua h1] at hor
    rw [← kind0_sign ua h1]
    exact rsqrt_z op m a b c Ka _ hor w
  · cases hn : negU a with
    | true =>
      have e : rsqrtS m a = (9221120237041090560, 16) := by unfold rsqrtS; rw [if_neg h1, if_pos hn]
      rw [e]
      exact rsqrt_neg op m a b c _ Ka (nef (n := 0) h1) ((neg_div a).trans hn) w
    | false =>
      by_cases h3 : kindN a = 3
      · have e : rsqrtS m a = (0, 0) := by unfold rsqrtS; rw [if_neg h1, if_neg (by rw [hn]; decide), if_pos h3]
        rw [e]; rw [h3] at Ka
        exact rsqrt_inf op m a b c Ka ((neg_div a).trans hn) w
      · have e : rsqrtS m a = rsqrtV m a := by unfold rsqrtS; rw [if_neg h1, if_neg (by rw [hn]; decide), if_neg h3]
        rw [e]
        have ha : exN a ≠ 0 := by omega
        have hs := sig_bl ha
        have hs0 : sigU a ≠ 0 := by rw [Ne, sigU_zero]; exact ha
        have hub : U64 (sigU a) := by have := sigU_lt a; unfold U64; omega
        have b1 := expU_bounds a
        have hQ0 : 2 ^ 252 / sigU a ≠ 0 := by
          have h2 : sigU a ≤ 2 ^ 252 := by have := sigU_lt a; omega
          have := Nat.div_pos h2 (Nat.pos_of_ne_zero hs0)
          omega
        have hQ : bl (2 ^ 252 / sigU a) ≤ 253 := by
          refine Nat.le_trans (bl_mono (Nat.div_le_self _ _)) ?_
          rw [bl_le]; decide
        obtain ⟨k, h, k1, k2, k3, hu, hr0, Ro⟩ := rooted_any (n := false) (l := decide (2 ^ 252 % sigU a ≠ 0)) (e := -252 - expU a) hQ0 hQ (by omega) (by omega)
        rw [← rsqrt_soft ha k1 (by omega) (rootN_is _)]
        exact rsqrt_go op m a b c _ Ka _ _ _ _ _ _ _ _ (2 ^ 252) _ _ _ (fun W => unpack_any a ua W) (fun W => shl_252 W) (fun W => by rw [wd_sig]; exact Div_any _ _ u256_252 hub (by omega) W) (wrapI_in (by omega) (by omega)) (wrap_in (by omega) (by omega)) Ro (fun W => round_any _ _ _ _ m hu hr0 hm (by omega) (by omega) W) ((neg_div a).trans hn) (nef (n := 0) h1) (nef (n := 3) h3) w
theorem cb_flat (x : Nat) : cb x = x * (x * x) := by unfold cb; rw [Nat.mul_assoc]
theorem cube_fix {n : Nat} (hn : U256 n) (h2 : n < 2 ^ 186) (W : World) : Calls Tryd.prog 50 #[W4 n] W fun e w' => e = .returned (.tuple #[.int .u64 (cbN n), .bool (decide (cbN n * (cbN n * cbN n) ≠ n))]) ∧ Below W.heap.size W w' := by
  refine (Cube_any n hn h2 W).mono ?_
  rintro e w' ⟨x, rfl, h1, h2, h3, hb⟩
  rw [cb_flat] at h1 h2 ⊢
  have : x = cbN n := cb_uniq ⟨h1, h2⟩ (cbN_is n)
  subst this
  exact ⟨rfl, hb⟩
theorem cbN_u64 {n : Nat} (h2 : n < 2 ^ 186) : U64 (cbN n) := by
  have h1 := (cbN_is n).1
  unfold U64
  refine Nat.lt_of_not_le fun h3 => ?_
  have h4 := cb_mono h3
  have h5 : (2 : Nat) ^ 186 ≤ 18446744073709551616 * (18446744073709551616 * 18446744073709551616) := by decide
  omega
theorem cbrt_any (op m a b c : Nat) (hm : m < 5) (ua : U64 a) (w : World) : Calls Tryd.prog 40 #[REC op m a b c] w (SoftOut (cbrtS m a).1 (cbrtS m a).2 false w) := by
  have Ka := Lib.hid (fun W => kindOf_any a W)
  have za := kind_zero (x := a)
  by_cases h3 : kindN a = 3
  · have e : cbrtS m a = (a, 0) := by unfold cbrtS; rw [if_pos (.inl h3)]
    rw [e]; rw [h3] at Ka
    exact cbrt_inf op m a b c Ka w
  · by_cases h1 : kindN a = 0
    · have e : cbrtS m a = (a, 0) := by unfold cbrtS; rw [if_pos (.inr h1)]
      rw [e]; rw [h1] at Ka
      exact cbrt_z op m a b c Ka w
    · have e : cbrtS m a = cbrtV m a := by unfold cbrtS; rw [if_neg (by omega)]
      rw [e]
      have ha : exN a ≠ 0 := by omega
      have hs := sig_bl ha
      have hs0 : sigU a ≠ 0 := by rw [Ne, sigU_zero]; exact ha
      have b1 := expU_bounds a
      obtain ⟨k, k1, k2, k3, k4⟩ : ∃ k : Nat, 128 ≤ k ∧ k ≤ 130 ∧ (expU a - k) % 3 = 0 ∧ (∀ j : Nat, 128 ≤ j → j < k → (expU a - j) % 3 ≠ 0) := by
        refine ⟨128 + ((expU a - 128) % 3).toNat, by omega, by omega, by omega, fun j h1 h2 => by omega⟩
      obtain ⟨h, hh⟩ : ∃ h : Int, h = (expU a - k) / 3 := ⟨_, rfl⟩
      have hbk : bl (sigU a * 2 ^ k) = bl (sigU a) + k := bl_shift hs0
      have h186 : sigU a * 2 ^ k < 2 ^ 186 := by
        have := bl_le (n := sigU a * 2 ^ k) (k := 186)
        exact this.1 (by omega)
      have hu : U256 (sigU a * 2 ^ k) := Nat.lt_trans h186 (by decide)
      have hus : U256 (sigU a) := Nat.lt_of_le_of_lt (Nat.le_mul_of_pos_right _ (Nat.two_pow_pos k)) hu
      have hc := cbN_is (sigU a * 2 ^ k)
      have hc0 : cbN (sigU a * 2 ^ k) ≠ 0 := cb_pos hc (by have := Nat.mul_pos (Nat.pos_of_ne_zero hs0) (Nat.two_pow_pos k); omega)
      have hc64 := cbN_u64 h186
      have hcu : U256 (cbN (sigU a * 2 ^ k)) := by unfold U64 at hc64; unfold U256; omega
      rw [← cbrt_soft (h := h) ha (by omega) k1 hc]
      exact cbrt_go op m a b c _ k Ka _ (decide (cbN (sigU a * 2 ^ k) * (cbN (sigU a * 2 ^ k) * cbN (sigU a * 2 ^ k)) ≠ sigU a * 2 ^ k)) _ h _ (sigU a * 2 ^ k) (cbN (sigU a * 2 ^ k)) _ _ (fun W => unpack_any a ua W) k1 k2 (fun j h1 h2 => tm_true (k4 j h1 h2)) (tm_false k3) (fun j hj => wrap_in (by omega) (by omega)) (by rw [hh]; exact td_even k3) (wrap_in (by omega) (by omega))
        (fun W => by
          have := Shl_any (sigU a) hus (k : Int) (by omega) (by omega) W
          rw [Int.toNat_natCast, shlN_eq hu] at this
          exact this)
        (fun W => cube_fix hu h186 W)
        (fun W => by rw [← NV_small hc64]; exact round_any _ _ _ _ m hcu hc0 hm (by omega) (by omega) W) (nef (n := 0) h1) (nef (n := 3) h3) w
end Go.Proofs.YtldmbneckcjonabDoor
