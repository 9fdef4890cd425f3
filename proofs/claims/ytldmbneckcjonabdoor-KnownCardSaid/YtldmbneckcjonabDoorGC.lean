/- Several texts in one: Small functions of soft: signed, up, unpack, times. · soft.unpack: a finite number's parts, its highest bit at place 52. · Plain: the parts of a rounding; a finite number's exact value. · number.cut: k places taken off, rounded; or put on. · Plain: rounding with a mark of what is left behind; that it does not hang on how many places are carried along. No program in sight; each lemma states its own conditions. · Plain: that two numbers, carried with other numbers of places, round alike: quotients, roots. No program in sight; each lemma states its own conditions. · Plain: a sum with a mark rounds as the exact sum. No program in sight; each lemma states its own conditions. · Plain: what each operation answers, as a function of the operands' bits; that the program's way of carrying the numbers gives the same. No program in sight; each lemma states its own conditions. · Equality of two kinds at once, as a law of the operation; a number with its quiet bit set. · Plain: signs: of a product, of a number turned; what the operations answer, as functions of the operands' bits. No program in sight; each lemma states its own conditions. -/
import Derived.BigQuiet
import Derived.Deep.Cut
import Derived.Test.YtldmbneckcjonabDoorGA
import Derived.Test.YtldmbneckcjonabDoorGB
set_option linter.unusedVariables false
set_option linter.unusedSimpArgs false
namespace Go.Proofs.YtldmbneckcjonabDoor
open Go.RowKit
/-- An unpacked number. -/
abbrev NV (neg : Bool) (e : Int) (s : Nat) (l : Bool) : Value := .agg #[.bool neg, .int .i64 e, .int .u64 (wd 0 s), .int .u64 (wd 1 s), .int .u64 (wd 2 s), .int .u64 (wd 3 s), .bool l]
def signN (neg : Bool) : Nat := if neg then 9223372036854775808 else 0
set_option maxRecDepth 100000 in
set_option maxHeartbeats 400000 in
theorem signed_any (neg : Bool) (w : World) : Calls Tryd.prog 52 #[.bool neg] w fun e w' => e = .returned (.int .u64 (signN neg)) ∧ w = w' := by
  cases neg
  · go_enter Tryd.func52, Tryd.ntmps52
    go_wp2
    go_ret
    exact ⟨rfl, rfl⟩
  · go_enter Tryd.func52, Tryd.ntmps52
    go_wp2
    go_ret
    exact ⟨rfl, rfl⟩
/-- What is cut off makes the last place one more. -/
def upB (m : Nat) (neg odd half left : Bool) : Bool := if m = 0 then half && (left || odd) else if m = 1 then half else if m = 3 then !neg && (half || left) else if m = 4 then neg && (half || left) else false
set_option maxRecDepth 100000 in
set_option maxHeartbeats 400000 in
theorem up_0 (neg odd half left : Bool) (w : World) : Calls Tryd.prog 58 #[.int .u8 0, .bool neg, .bool odd, .bool half, .bool left] w fun e w' => e = .returned (.bool (half && (left || odd))) ∧ w = w' := by
  go_enter Tryd.func58, Tryd.ntmps58
  go_wp2
  all_goals go_ret
  all_goals exact ⟨ret_bool (by simp [*]), rfl⟩
set_option maxRecDepth 100000 in
set_option maxHeartbeats 400000 in
theorem up_1 (neg odd half left : Bool) (w : World) : Calls Tryd.prog 58 #[.int .u8 1, .bool neg, .bool odd, .bool half, .bool left] w fun e w' => e = .returned (.bool (half)) ∧ w = w' := by
  go_enter Tryd.func58, Tryd.ntmps58
  go_wp2
  all_goals go_ret
  all_goals exact ⟨ret_bool (by simp [*]), rfl⟩
set_option maxRecDepth 100000 in
set_option maxHeartbeats 400000 in
theorem up_2 (neg odd half left : Bool) (w : World) : Calls Tryd.prog 58 #[.int .u8 2, .bool neg, .bool odd, .bool half, .bool left] w fun e w' => e = .returned (.bool (false)) ∧ w = w' := by
  go_enter Tryd.func58, Tryd.ntmps58
  go_wp2
  all_goals go_ret
  all_goals exact ⟨ret_bool (by simp [*]), rfl⟩
set_option maxRecDepth 100000 in
set_option maxHeartbeats 400000 in
theorem up_3 (neg odd half left : Bool) (w : World) : Calls Tryd.prog 58 #[.int .u8 3, .bool neg, .bool odd, .bool half, .bool left] w fun e w' => e = .returned (.bool (!neg && (half || left))) ∧ w = w' := by
  go_enter Tryd.func58, Tryd.ntmps58
  go_wp2
  all_goals go_ret
  all_goals exact ⟨ret_bool (by simp [*]), rfl⟩
set_option maxRecDepth 100000 in
set_option maxHeartbeats 400000 in
theorem up_4 (neg odd half left : Bool) (w : World) : Calls Tryd.prog 58 #[.int .u8 4, .bool neg, .bool odd, .bool half, .bool left] w fun e w' => e = .returned (.bool (neg && (half || left))) ∧ w = w' := by
  go_enter Tryd.func58, Tryd.ntmps58
  go_wp2
  all_goals go_ret
  all_goals exact ⟨ret_bool (by simp [*]), rfl⟩
theorem up_any (m : Nat) (hm : m < 5) (neg odd half left : Bool) (w : World) : Calls Tryd.prog 58 #[.int .u8 m, .bool neg, .bool odd, .bool half, .bool left] w fun e w' => e = .returned (.bool (upB m neg odd half left)) ∧ w = w' := by
  match m, hm with
  | 0, _ => exact up_0 neg odd half left w
  | 1, _ => exact up_1 neg odd half left w
  | 2, _ => exact up_2 neg odd half left w
  | 3, _ => exact up_3 neg odd half left w
  | 4, _ => exact up_4 neg odd half left w
theorem Mul_w (s1 s2 : Nat) (w : World) :
    Calls Tryd.prog 54 #[.agg #[.int .u64 (wd 0 s1), .int .u64 0], .agg #[.int .u64 (wd 0 s2), .int .u64 0]] w fun e w' => e = .returned (W4 (wd 0 s1 * wd 0 s2)) ∧ Below w.heap.size w w' := by
  have := Mul_any (isW_wd 0 s1) isW_zero (isW_wd 0 s2) isW_zero w
  have e : (((wd 0 s1 : Nat) : Int) + 18446744073709551616 * 0) * (((wd 0 s2 : Nat) : Int) + 18446744073709551616 * 0) = ((wd 0 s1 * wd 0 s2 : Nat) : Int) := by
    rw [Int.mul_zero, Int.add_zero, Int.add_zero, ← Int.natCast_mul]
  rw [e, Int.toNat_natCast] at this
  exact this
set_option maxRecDepth 100000 in
set_option maxHeartbeats 1000000 in
theorem times_any {n1 n2 l1 l2 : Bool} {e1 e2 : Int} {s1 s2 : Nat} (hE : wrap64 (e1 + e2) = e1 + e2) (w : World) :
    Calls Tryd.prog 45 #[NV n1 e1 s1 l1, NV n2 e2 s2 l2] w fun e w' => e = .returned (NV (n1 != n2) (e1 + e2) (wd 0 s1 * wd 0 s2) false) ∧ Below w.heap.size w w' := by
  go_enter Tryd.func45, Tryd.ntmps45
  go_wp2_with fail
  refine (Mul_w s1 s2 _).mono ?_
  rintro e w1 ⟨rfl, hb1⟩; have hz_w1 := (hb1).size; (try simp at hz_w1); have hl_w1_0 : w.heap.size < w1.heap.size := (by omega); have hl_w1_1 : w.heap.size + 1 < w1.heap.size := (by omega); have hl_w1_2 : w.heap.size + 1 + 1 < w1.heap.size := (by omega); have hk_w1_0_0 : w1.cell? ⟨w.heap.size + 1 + 1, 0, none⟩ = some (.bool false) := (by rw [hb1.cell (p := ⟨w.heap.size + 1 + 1, 0, none⟩) (by first | omega | (simp; done) | (simp; omega))]; go_simp; done); have hg_w1_0_0 : w1.frozen? ⟨w.heap.size + 1 + 1, 0, none⟩ = false := (by rw [hb1.frozen (p := ⟨w.heap.size + 1 + 1, 0, none⟩) (by first | omega | (simp; done) | (simp; omega))]; go_simp; done); have hk_w1_0_1 : w1.cell? ⟨w.heap.size + 1 + 1, 1, none⟩ = some (.int .i64 0) := (by rw [hb1.cell (p := ⟨w.heap.size + 1 + 1, 1, none⟩) (by first | omega | (simp; done) | (simp; omega))]; go_simp; done); have hg_w1_0_1 : w1.frozen? ⟨w.heap.size + 1 + 1, 1, none⟩ = false := (by rw [hb1.frozen (p := ⟨w.heap.size + 1 + 1, 1, none⟩) (by first | omega | (simp; done) | (simp; omega))]; go_simp; done); have hk_w1_0_2 : w1.cell? ⟨w.heap.size + 1 + 1, 2, none⟩ = some (.int .u64 0) := (by rw [hb1.cell (p := ⟨w.heap.size + 1 + 1, 2, none⟩) (by first | omega | (simp; done) | (simp; omega))]; go_simp; done); have hg_w1_0_2 : w1.frozen? ⟨w.heap.size + 1 + 1, 2, none⟩ = false := (by rw [hb1.frozen (p := ⟨w.heap.size + 1 + 1, 2, none⟩) (by first | omega | (simp; done) | (simp; omega))]; go_simp; done); have hk_w1_0_3 : w1.cell? ⟨w.heap.size + 1 + 1, 3, none⟩ = some (.int .u64 0) := (by rw [hb1.cell (p := ⟨w.heap.size + 1 + 1, 3, none⟩) (by first | omega | (simp; done) | (simp; omega))]; go_simp; done); have hg_w1_0_3 : w1.frozen? ⟨w.heap.size + 1 + 1, 3, none⟩ = false := (by rw [hb1.frozen (p := ⟨w.heap.size + 1 + 1, 3, none⟩) (by first | omega | (simp; done) | (simp; omega))]; go_simp; done); have hk_w1_0_4 : w1.cell? ⟨w.heap.size + 1 + 1, 4, none⟩ = some (.int .u64 0) := (by rw [hb1.cell (p := ⟨w.heap.size + 1 + 1, 4, none⟩) (by first | omega | (simp; done) | (simp; omega))]; go_simp; done); have hg_w1_0_4 : w1.frozen? ⟨w.heap.size + 1 + 1, 4, none⟩ = false := (by rw [hb1.frozen (p := ⟨w.heap.size + 1 + 1, 4, none⟩) (by first | omega | (simp; done) | (simp; omega))]; go_simp; done); have hk_w1_0_5 : w1.cell? ⟨w.heap.size + 1 + 1, 5, none⟩ = some (.int .u64 0) := (by rw [hb1.cell (p := ⟨w.heap.size + 1 + 1, 5, none⟩) (by first | omega | (simp; done) | (simp; omega))]; go_simp; done); have hg_w1_0_5 : w1.frozen? ⟨w.heap.size + 1 + 1, 5, none⟩ = false := (by rw [hb1.frozen (p := ⟨w.heap.size + 1 + 1, 5, none⟩) (by first | omega | (simp; done) | (simp; omega))]; go_simp; done); have hk_w1_0_6 : w1.cell? ⟨w.heap.size + 1 + 1, 6, none⟩ = some (.bool false) := (by rw [hb1.cell (p := ⟨w.heap.size + 1 + 1, 6, none⟩) (by first | omega | (simp; done) | (simp; omega))]; go_simp; done); have hg_w1_0_6 : w1.frozen? ⟨w.heap.size + 1 + 1, 6, none⟩ = false := (by rw [hb1.frozen (p := ⟨w.heap.size + 1 + 1, 6, none⟩) (by first | omega | (simp; done) | (simp; omega))]; go_simp; done); have hk_w1_1_0 : w1.cell? ⟨w.heap.size, 0, none⟩ = some (.bool n1) := (by rw [hb1.cell (p := ⟨w.heap.size, 0, none⟩) (by first | omega | (simp; done) | (simp; omega))]; go_simp; done); have hk_w1_1_1 : w1.cell? ⟨w.heap.size, 1, none⟩ = some (.int .i64 e1) := (by rw [hb1.cell (p := ⟨w.heap.size, 1, none⟩) (by first | omega | (simp; done) | (simp; omega))]; go_simp; done); have hk_w1_2_0 : w1.cell? ⟨w.heap.size + 1, 0, none⟩ = some (.bool n2) := (by rw [hb1.cell (p := ⟨w.heap.size + 1, 0, none⟩) (by first | omega | (simp; done) | (simp; omega))]; go_simp; done); have hk_w1_2_1 : w1.cell? ⟨w.heap.size + 1, 1, none⟩ = some (.int .i64 e2) := (by rw [hb1.cell (p := ⟨w.heap.size + 1, 1, none⟩) (by first | omega | (simp; done) | (simp; omega))]; go_simp; done)
  go_simp
  repeat (any_goals (first | go_values | go_skip | go_guarded | go_step | go_upon))
  refine bodyPost_ret (v := NV (n1 != n2) (e1 + e2) (wd 0 s1 * wd 0 s2) false) ?_ rfl ⟨rfl, ?_⟩
  · simp [results, Tryd.results45, go_sem, *]
    cases n1 <;> cases n2 <;> rfl
  repeat' (first | with_reducible exact Below.refl _ _ | with_reducible assumption | with_reducible refine Below.drew ?_ | with_reducible refine bdrewN ?_ _ | with_reducible refine Below.alloc ?_ ?_ _ | with_reducible refine Below.setCell ?_ ?_ _ | with_reducible refine Below.trans ?_ (Below.mono (by assumption) ?_) | omega | (simp; done) | (simp; omega))
end Go.Proofs.YtldmbneckcjonabDoor
namespace Go.Proofs.YtldmbneckcjonabDoor
open Go.RowKit
def sigF (x : Nat) : Nat := x % 4503599627370496
def expF (x : Nat) : Nat := x / 4503599627370496 % 2048
/-- The significand, 53 bits of it (0 of a zero); the exponent that goes with it. -/
@[irreducible] def sigU (x : Nat) : Nat := if expF x = 0 then sigF x * 2 ^ (53 - bl (sigF x)) else sigF x + 4503599627370496
@[irreducible] def expU (x : Nat) : Int := if expF x = 0 then -1074 - (53 - (bl (sigF x) : Int)) else (expF x : Int) - 1075
def negU (x : Nat) : Bool := decide (x / 9223372036854775808 = 1)
attribute [local go_sem] and_2047 and_f
set_option maxRecDepth 100000 in
set_option maxHeartbeats 1000000 in
theorem unpack_n (x : Nat) (hx : U64 x) (s e : Int) (ng : Bool) (hs : bits .or .u64 ((x : Int) % 4503599627370496) 4503599627370496 = s) (he : (x : Int) / 4503599627370496 % 2048 - 1075 = e) (hp : decide (0 < (x : Int) / 4503599627370496 % 2048) = true) (hn : ((x : Int) / 9223372036854775808 == 1) = ng) (w : World) :
    Calls Tryd.prog 44 #[.int .u64 x] w fun e' w' => e' = .returned (.agg #[.bool ng, .int .i64 e, .int .u64 s, .int .u64 0, .int .u64 0, .int .u64 0, .bool false]) ∧ Below w.heap.size w w' := by
  go_enter Tryd.func44, Tryd.ntmps44
  repeat (any_goals (first | go_values | go_skip | go_guarded | go_step | go_upon))
  refine bodyPost_ret (v := .agg #[_, _, _, _, _, _, _]) (by simp [results, Tryd.results44, go_sem]) rfl ⟨rfl, ?_⟩
  repeat' (first | with_reducible exact Below.refl _ _ | with_reducible assumption | with_reducible refine Below.drew ?_ | with_reducible refine bdrewN ?_ _ | with_reducible refine Below.alloc ?_ ?_ _ | with_reducible refine Below.setCell ?_ ?_ _ | with_reducible refine Below.trans ?_ (Below.mono (by assumption) ?_) | omega | (simp; done) | (simp; omega))
set_option maxRecDepth 100000 in
set_option maxHeartbeats 1000000 in
theorem unpack_s (x : Nat) (f s k : Nat) (e : Int) (ng : Bool) (hf : (x : Int) % 4503599627370496 = f) (hfu : U64 f) (hk : wrap64 (64 - (bl f : Int) - 11) = k) (hm : max (k : Int) 0 = k) (he : -1074 - (k : Int) = e) (hp : (x : Int) / 4503599627370496 % 2048 = 0) (hn : ((x : Int) / 9223372036854775808 == 1) = ng) (hk6 : k < 64) (hs : IntKind.u64.wrap ((f : Int) * 2 ^ k) = s) (w : World) :
    Calls Tryd.prog 44 #[.int .u64 x] w fun e' w' => e' = .returned (.agg #[.bool ng, .int .i64 e, .int .u64 s, .int .u64 0, .int .u64 0, .int .u64 0, .bool false]) ∧ Below w.heap.size w w' := by
  go_enter Tryd.func44, Tryd.ntmps44
  go_wp2_with (go_at_call 53; refine (LeadingZeros64_any _ hfu _).mono ?_; rintro e w1 ⟨rfl, rfl⟩)
  refine bodyPost_ret (v := .agg #[_, _, _, _, _, _, _]) (by simp [results, Tryd.results44, go_sem]) rfl ⟨rfl, ?_⟩
  repeat' (first | with_reducible exact Below.refl _ _ | with_reducible assumption | with_reducible refine Below.drew ?_ | with_reducible refine bdrewN ?_ _ | with_reducible refine Below.alloc ?_ ?_ _ | with_reducible refine Below.setCell ?_ ?_ _ | with_reducible refine Below.trans ?_ (Below.mono (by assumption) ?_) | omega | (simp; done) | (simp; omega))
theorem sigF_lt (x : Nat) : sigF x < 4503599627370496 := by unfold sigF; omega
theorem bl_sigF (x : Nat) : bl (sigF x) ≤ 52 := bl_le.2 (sigF_lt x)
theorem sigU_lt (x : Nat) : sigU x < 9007199254740992 := by
  have h := sigF_lt x
  unfold sigU
  split
  · have h1 := bl_sigF x
    have h2 := lt_two_bl (sigF x)
    have h3 : sigF x * 2 ^ (53 - bl (sigF x)) < 2 ^ bl (sigF x) * 2 ^ (53 - bl (sigF x)) := Nat.mul_lt_mul_of_pos_right h2 (Nat.two_pow_pos _)
    rw [← Nat.pow_add, show bl (sigF x) + (53 - bl (sigF x)) = 53 from by omega] at h3
    exact h3
  · omega
theorem small_words {s : Nat} (h : U64 s) : W4 s = .agg #[.int .u64 s, .int .u64 0, .int .u64 0, .int .u64 0] :=
  words_eq (b := 0) (c := 0) (d := 0) h (show 0 < 18446744073709551616 by decide) (show 0 < 18446744073709551616 by decide) (show 0 < 18446744073709551616 by decide) (by unfold of4; omega)
theorem NV_small {ng : Bool} {e : Int} {s : Nat} {l : Bool} (h : U64 s) : NV ng e s l = .agg #[.bool ng, .int .i64 e, .int .u64 s, .int .u64 0, .int .u64 0, .int .u64 0, .bool l] := by
  have := small_words h
  simp only [W4, Value.agg.injEq, Array.mk.injEq, List.cons.injEq, Value.int.injEq, true_and, and_true] at this
  obtain ⟨h0, h1, h2, h3⟩ := this
  unfold NV; rw [h0, h1, h2, h3]
theorem unpack_any (x : Nat) (hx : U64 x) (w : World) :
    Calls Tryd.prog 44 #[.int .u64 x] w fun e' w' => e' = .returned (NV (negU x) (expU x) (sigU x) false) ∧ Below w.heap.size w w' := by
  have hxo := hx.out
  have hs := sigU_lt x
  rw [NV_small (show sigU x < 18446744073709551616 by omega)]
  have hn : ((x : Int) / 9223372036854775808 == 1) = negU x := by
    unfold negU; by_cases h : x / 9223372036854775808 = 1
    · rw [decide_eq_true h, beq_iff_eq]; omega
    · rw [decide_eq_false h, beq_eq_false_iff_ne]; omega
  have hf := sigF_lt x
  by_cases h0 : expF x = 0
  · have hb := bl_sigF x
    have hsu : sigU x = sigF x * 2 ^ (53 - bl (sigF x)) := by unfold sigU; rw [if_pos h0]
    have heu : expU x = -1074 - (53 - (bl (sigF x) : Int)) := by unfold expU; rw [if_pos h0]
    rw [heu]
    refine unpack_s x (sigF x) (sigU x) (53 - bl (sigF x)) _ _ (by unfold sigF; simp) (show sigF x < 18446744073709551616 by omega) (by unfold wrap64; omega) (by omega) (by omega) (by unfold expF at h0; omega) hn (by omega) ?_ w
    have hc : ((sigF x * 2 ^ (53 - bl (sigF x)) : Nat) : Int) = (sigF x : Int) * 2 ^ (53 - bl (sigF x)) := by simp
    rw [hsu] at hs ⊢
    rw [← hc, IntKind.wrap_u64]; omega
  · have hsu : sigU x = sigF x + 4503599627370496 := by unfold sigU; rw [if_neg h0]
    have heu : expU x = (expF x : Int) - 1075 := by unfold expU; rw [if_neg h0]
    have he : ((x : Int) / 4503599627370496 % 2048) = expF x := by unfold expF; simp
    refine unpack_n x hx (sigU x) (expU x) _ ?_ (by rw [heu, he]) (by rw [he]; simp; omega) hn w
    have e1 : (x : Int) % 4503599627370496 = (sigF x : Nat) := by unfold sigF; simp
    rw [e1, hsu]
    have := u64_or_nat (sigF x) 4503599627370496 (by omega) (by omega)
    rw [show ((4503599627370496 : Nat) : Int) = 4503599627370496 from rfl] at this
    rw [this, Nat.or_comm, nat_join 52 4503599627370496 (sigF x) (by decide) hf, Nat.add_comm]
end Go.Proofs.YtldmbneckcjonabDoor
namespace Go.Proofs.YtldmbneckcjonabDoor
/-- The number n without its last K bits (below 0: with some more), rounded; whether that is another one. -/
def halfB (n k : Nat) : Bool := decide (n / 2 ^ (k - 1) % 2 = 1)
def belowB (n k : Nat) : Bool := decide (n % 2 ^ (k - 1) ≠ 0)
def cutF (m : Nat) (ng : Bool) (n : Nat) (K : Int) : Nat := if K ≤ 0 then n * 2 ^ (-K).toNat else if upB m ng (decide (n / 2 ^ K.toNat % 2 = 1)) (halfB n K.toNat) (belowB n K.toNat) then n / 2 ^ K.toNat + 1 else n / 2 ^ K.toNat
def cutB (n : Nat) (K : Int) : Bool := if K ≤ 0 then false else halfB n K.toNat || belowB n K.toNat
theorem whole_half {n k : Nat} (hk : 0 < k) : decide (n % 2 ^ k = 0) = (!halfB n k && decide (n % 2 ^ (k - 1) = 0)) := by
  obtain ⟨j, rfl⟩ : ∃ j, k = j + 1 := ⟨k - 1, by omega⟩
  rw [Nat.add_sub_cancel]
  unfold halfB
  rw [Nat.add_sub_cancel, Nat.pow_succ, Nat.mod_mul]
  have hp := Nat.two_pow_pos j
  have h2 : n / 2 ^ j % 2 = 0 ∨ n / 2 ^ j % 2 = 1 := by omega
  generalize n % 2 ^ j = t at *
  rcases h2 with h2 | h2 <;> rw [h2] <;> simp <;> omega
/-- A number with one digit more behind it. -/
def mk2 (q : Nat) (wh : Bool) : Nat := q * 2 + (if wh then 0 else 1)
/-- The exact number of some bits. -/
@[irreducible] def exN (x : Nat) : Nat := if expF x = 0 then sigF x else sigF x + 4503599627370496
@[irreducible] def exE (x : Nat) : Int := if expF x = 0 then -1074 else (expF x : Int) - 1075
theorem exN_lt (x : Nat) : exN x < 9007199254740992 := by have := sigF_lt x; unfold exN; split <;> omega
end Go.Proofs.YtldmbneckcjonabDoor
namespace Go.Proofs.YtldmbneckcjonabDoor
open Go.RowKit
theorem bdrewN {B : Nat} {a w : World} (h : Below B a w) (n : Nat) : Below B a (w.drewN n) := ⟨h.os, h.tape, h.output, h.size, h.block⟩
theorem Shr_any (a : Nat) (ha : U256 a) (k : Int) (h0 : 0 ≤ k) (w : World) :
    Calls Tryd.prog 63 #[W4 a, .int .i64 k] w fun e w' => e = .returned (.tuple #[W4 (a / 2 ^ k.toNat), .bool (decide (a % 2 ^ k.toNat ≠ 0))]) ∧ Below w.heap.size w w' := by
  by_cases hk : k < 256
  · exact Shr_small a ha k h0 hk w
  · have h1 := shr_big ha (k := k.toNat) (by omega)
    have h2 : a % 2 ^ k.toNat = a := Nat.mod_eq_of_lt (Nat.lt_of_lt_of_le ha.out (Nat.pow_le_pow_right (by decide) (by omega)))
    rw [h1, h2]
    exact Shr_big a ha k (by omega) w
theorem idx0 (a b c d : Int) (w : World) : (Instr.index 75 (.agg #[.int .u64 a, .int .u64 b, .int .u64 c, .int .u64 d]) (.int .i64 0)).run Tryd.prog w = .ok (.int .u64 a) w := by kernel_rfl
/-- What cut gives of k above 0: q the number without its last k places, h whether the next place is 1, l whether more is left. -/
def cutUp (m : Nat) (neg : Bool) (q : Nat) (h l : Bool) : Nat := if upB m neg (decide (q % 2 = 1)) h l then (q + 1) % 18446744073709551616 else q
set_option maxRecDepth 100000 in
set_option maxHeartbeats 400000 in
theorem cut_low (ng l : Bool) (e0 : Int) (s : Nat) (hs : U256 s) (k : Int) (m : Nat) (hk : k ≤ 0) (nk : Int) (hnk : wrap64 (-k) = nk) (h0 : 0 ≤ nk) (h1 : nk < 4294967296) (w : World) :
    Calls Tryd.prog 56 #[NV ng e0 s l, .int .i64 k, .int .u8 m] w fun e w' => e = .returned (.tuple #[.int .u64 (wd 0 (shlN s nk.toNat)), .bool l]) ∧ Below w.heap.size w w' := by
  go_enter Tryd.func56, Tryd.ntmps56
  go_upto_region 2 with (fail)
  have C := Lib.hid (fun W => Shl_any s hs nk h0 h1 W)
  have i0 := fun w => idx0 (wd 0 (shlN s nk.toNat)) (wd 1 (shlN s nk.toNat)) (wd 2 (shlN s nk.toNat)) (wd 3 (shlN s nk.toNat)) w
  clear h0 h1 hs
  have hnk2 : IntKind.i64.wrap (-k) = nk := by rw [IntKind.wrap_i64]; simpa only [wrap64] using hnk
  go_region_held3 (fun w' => w'.cell? ⟨w.heap.size, 2, none⟩ = some (.int .u64 (wd 0 s)) ∧ w'.cell? ⟨w.heap.size, 3, none⟩ = some (.int .u64 (wd 1 s)) ∧ w'.cell? ⟨w.heap.size, 4, none⟩ = some (.int .u64 (wd 2 s)) ∧ w'.cell? ⟨w.heap.size, 5, none⟩ = some (.int .u64 (wd 3 s)) ∧ w'.cell? ⟨w.heap.size, 6, none⟩ = some (.bool l))
    (first
      | (refine ⟨?_, ?_, ?_, ?_, ?_⟩ <;> (go_simp; done))
      | (refine ⟨?_, ?_, ?_, ?_, ?_⟩ <;> (rw [hb1.cell (by first | omega | (simp; done) | (simp; omega))]; go_simp; done))
      | go_keep)
    (first | (go_at_call 48; refine (C.out _).mono ?_; rintro e w1 ⟨rfl, hb1⟩))
  repeat (any_goals (first | go_values | go_skip | go_guarded | go_step | go_upon))
  go_ret2
  refine ⟨rfl, ?_⟩
  repeat' (first | with_reducible exact Below.refl _ _ | with_reducible assumption | with_reducible refine Below.drew ?_ | with_reducible refine bdrewN ?_ _ | with_reducible refine Below.alloc ?_ ?_ _ | with_reducible refine Below.setCell ?_ ?_ _ | with_reducible refine Below.trans ?_ (Below.mono (by assumption) ?_) | omega | (simp; done) | (simp; omega))
theorem ret_ub' {a a' : Int} {b b' : Bool} (h1 : a = a') (h2 : b = b') : Ending.returned (.tuple #[.int .u64 a, .bool b]) = .returned (.tuple #[.int .u64 a', .bool b']) := by rw [h1, h2]
attribute [local go_sem] and_1
set_option maxRecDepth 100000 in
set_option maxHeartbeats 2000000 in
theorem cut_high_tu (ng l : Bool) (e0 : Int) (s Q H : Nat) (lq od hb : Bool) (k k1 : Int) (m q' : Nat) (hm : m < 5) (hk : ¬ k ≤ 0) (hk1 : wrap64 (k - 1) = k1)
    (C1 : Hid (∀ W : World, Calls Tryd.prog 63 #[W4 s, .int .i64 k] W fun e w' => e = .returned (.tuple #[W4 Q, .bool lq]) ∧ Below W.heap.size W w'))
    (C2 : Hid (∀ W : World, Calls Tryd.prog 63 #[W4 s, .int .i64 k1] W fun e w' => e = .returned (.tuple #[W4 H, .bool true]) ∧ Below W.heap.size W w'))
    (hh : ((wd 0 H : Int) % 2 == 1) = hb) (ho : ((wd 0 Q : Int) % 2 == 1) = od) (hu : upB m ng od hb true = true) (hq : IntKind.u64.wrap ((wd 0 Q : Int) + 1) = q') (w : World) :
    Calls Tryd.prog 56 #[NV ng e0 s l, .int .i64 k, .int .u8 m] w fun e w' => e = .returned (.tuple #[.int .u64 q', .bool (hb || true)]) ∧ Below w.heap.size w w' := by
  go_enter Tryd.func56, Tryd.ntmps56
  go_wp2_with fail
  refine (C1.out _).mono ?_
  rintro e w1 ⟨rfl, hb1⟩; have hz_w1 := (hb1).size; (try simp at hz_w1); have hl_w1_0 : w.heap.size < w1.heap.size := (by omega); have hk_w1_0_0 : w1.cell? ⟨w.heap.size, 0, none⟩ = some (.bool ng) := (by rw [hb1.cell (p := ⟨w.heap.size, 0, none⟩) (by first | omega | (simp; done) | (simp; omega))]; go_simp; done); have hk_w1_0_1 : w1.cell? ⟨w.heap.size, 1, none⟩ = some (.int .i64 e0) := (by rw [hb1.cell (p := ⟨w.heap.size, 1, none⟩) (by first | omega | (simp; done) | (simp; omega))]; go_simp; done); have hk_w1_0_2 : w1.cell? ⟨w.heap.size, 2, none⟩ = some (.int .u64 (wd 0 s)) := (by rw [hb1.cell (p := ⟨w.heap.size, 2, none⟩) (by first | omega | (simp; done) | (simp; omega))]; go_simp; done); have hk_w1_0_3 : w1.cell? ⟨w.heap.size, 3, none⟩ = some (.int .u64 (wd 1 s)) := (by rw [hb1.cell (p := ⟨w.heap.size, 3, none⟩) (by first | omega | (simp; done) | (simp; omega))]; go_simp; done); have hk_w1_0_4 : w1.cell? ⟨w.heap.size, 4, none⟩ = some (.int .u64 (wd 2 s)) := (by rw [hb1.cell (p := ⟨w.heap.size, 4, none⟩) (by first | omega | (simp; done) | (simp; omega))]; go_simp; done); have hk_w1_0_5 : w1.cell? ⟨w.heap.size, 5, none⟩ = some (.int .u64 (wd 3 s)) := (by rw [hb1.cell (p := ⟨w.heap.size, 5, none⟩) (by first | omega | (simp; done) | (simp; omega))]; go_simp; done); have hk_w1_0_6 : w1.cell? ⟨w.heap.size, 6, none⟩ = some (.bool l) := (by rw [hb1.cell (p := ⟨w.heap.size, 6, none⟩) (by first | omega | (simp; done) | (simp; omega))]; go_simp; done)
  go_simp
  go_wp2_with fail
  refine (C2.out _).mono ?_
  rintro e w2 ⟨rfl, hb2⟩; have hz_w2 := (hb2).size; (try simp at hz_w2); have hl_w2_0 : w.heap.size < w2.heap.size := (by omega); have hk_w2_0_0 : w2.cell? ⟨w.heap.size, 0, none⟩ = some (.bool ng) := (by rw [hb2.cell (p := ⟨w.heap.size, 0, none⟩) (by first | omega | (simp; done) | (simp; omega))]; go_simp; done); have hk_w2_0_1 : w2.cell? ⟨w.heap.size, 1, none⟩ = some (.int .i64 e0) := (by rw [hb2.cell (p := ⟨w.heap.size, 1, none⟩) (by first | omega | (simp; done) | (simp; omega))]; go_simp; done); have hk_w2_0_2 : w2.cell? ⟨w.heap.size, 2, none⟩ = some (.int .u64 (wd 0 s)) := (by rw [hb2.cell (p := ⟨w.heap.size, 2, none⟩) (by first | omega | (simp; done) | (simp; omega))]; go_simp; done); have hk_w2_0_3 : w2.cell? ⟨w.heap.size, 3, none⟩ = some (.int .u64 (wd 1 s)) := (by rw [hb2.cell (p := ⟨w.heap.size, 3, none⟩) (by first | omega | (simp; done) | (simp; omega))]; go_simp; done); have hk_w2_0_4 : w2.cell? ⟨w.heap.size, 4, none⟩ = some (.int .u64 (wd 2 s)) := (by rw [hb2.cell (p := ⟨w.heap.size, 4, none⟩) (by first | omega | (simp; done) | (simp; omega))]; go_simp; done); have hk_w2_0_5 : w2.cell? ⟨w.heap.size, 5, none⟩ = some (.int .u64 (wd 3 s)) := (by rw [hb2.cell (p := ⟨w.heap.size, 5, none⟩) (by first | omega | (simp; done) | (simp; omega))]; go_simp; done); have hk_w2_0_6 : w2.cell? ⟨w.heap.size, 6, none⟩ = some (.bool l) := (by rw [hb2.cell (p := ⟨w.heap.size, 6, none⟩) (by first | omega | (simp; done) | (simp; omega))]; go_simp; done); have hk_w2_1_0 : w2.cell? ⟨w1.heap.size, 0, none⟩ = some (.int .u64 (wd 0 Q)) := (by rw [hb2.cell (p := ⟨w1.heap.size, 0, none⟩) (by first | omega | (simp; done) | (simp; omega))]; go_simp; done); have hk_w2_1_1 : w2.cell? ⟨w1.heap.size, 1, none⟩ = some (.int .u64 (wd 1 Q)) := (by rw [hb2.cell (p := ⟨w1.heap.size, 1, none⟩) (by first | omega | (simp; done) | (simp; omega))]; go_simp; done); have hk_w2_1_2 : w2.cell? ⟨w1.heap.size, 2, none⟩ = some (.int .u64 (wd 2 Q)) := (by rw [hb2.cell (p := ⟨w1.heap.size, 2, none⟩) (by first | omega | (simp; done) | (simp; omega))]; go_simp; done); have hk_w2_1_3 : w2.cell? ⟨w1.heap.size, 3, none⟩ = some (.int .u64 (wd 3 Q)) := (by rw [hb2.cell (p := ⟨w1.heap.size, 3, none⟩) (by first | omega | (simp; done) | (simp; omega))]; go_simp; done)
  have hl1 : w1.heap.size < w2.heap.size := (by have := hb2.size; simp at this; omega)
  go_simp
  repeat (any_goals (first | go_values | go_skip | go_guarded | go_step | go_upon))
  go_quiet (fail)
  go_wp2_with fail
  refine (up_any m hm ng od hb true _).mono ?_
  rintro e w3 ⟨rfl, rfl⟩
  go_simp
  repeat (any_goals (first | go_values | go_skip | go_guarded | go_step | go_upon))
  all_goals go_ret2
  all_goals refine ⟨ret_ub' rfl (by first | (simp; done) | simp_all), ?_⟩
  all_goals (repeat' (first | with_reducible exact Below.refl _ _ | with_reducible assumption | with_reducible refine Below.drew ?_ | with_reducible refine bdrewN ?_ _ | with_reducible refine Below.alloc ?_ ?_ _ | with_reducible refine Below.setCell ?_ ?_ _ | with_reducible refine Below.trans ?_ (Below.mono (by assumption) ?_) | omega | (simp; done) | (simp; omega)))
set_option maxRecDepth 100000 in
set_option maxHeartbeats 2000000 in
theorem cut_high_td (ng l : Bool) (e0 : Int) (s Q H : Nat) (lq od hb : Bool) (k k1 : Int) (m q' : Nat) (hm : m < 5) (hk : ¬ k ≤ 0) (hk1 : wrap64 (k - 1) = k1)
    (C1 : Hid (∀ W : World, Calls Tryd.prog 63 #[W4 s, .int .i64 k] W fun e w' => e = .returned (.tuple #[W4 Q, .bool lq]) ∧ Below W.heap.size W w'))
    (C2 : Hid (∀ W : World, Calls Tryd.prog 63 #[W4 s, .int .i64 k1] W fun e w' => e = .returned (.tuple #[W4 H, .bool true]) ∧ Below W.heap.size W w'))
    (hh : ((wd 0 H : Int) % 2 == 1) = hb) (ho : ((wd 0 Q : Int) % 2 == 1) = od) (hu : upB m ng od hb true = false) (hq : IntKind.u64.wrap ((wd 0 Q : Int) + 1) = q') (w : World) :
    Calls Tryd.prog 56 #[NV ng e0 s l, .int .i64 k, .int .u8 m] w fun e w' => e = .returned (.tuple #[.int .u64 (wd 0 Q), .bool (hb || true)]) ∧ Below w.heap.size w w' := by
  go_enter Tryd.func56, Tryd.ntmps56
  go_wp2_with fail
  refine (C1.out _).mono ?_
  rintro e w1 ⟨rfl, hb1⟩; have hz_w1 := (hb1).size; (try simp at hz_w1); have hl_w1_0 : w.heap.size < w1.heap.size := (by omega); have hk_w1_0_0 : w1.cell? ⟨w.heap.size, 0, none⟩ = some (.bool ng) := (by rw [hb1.cell (p := ⟨w.heap.size, 0, none⟩) (by first | omega | (simp; done) | (simp; omega))]; go_simp; done); have hk_w1_0_1 : w1.cell? ⟨w.heap.size, 1, none⟩ = some (.int .i64 e0) := (by rw [hb1.cell (p := ⟨w.heap.size, 1, none⟩) (by first | omega | (simp; done) | (simp; omega))]; go_simp; done); have hk_w1_0_2 : w1.cell? ⟨w.heap.size, 2, none⟩ = some (.int .u64 (wd 0 s)) := (by rw [hb1.cell (p := ⟨w.heap.size, 2, none⟩) (by first | omega | (simp; done) | (simp; omega))]; go_simp; done); have hk_w1_0_3 : w1.cell? ⟨w.heap.size, 3, none⟩ = some (.int .u64 (wd 1 s)) := (by rw [hb1.cell (p := ⟨w.heap.size, 3, none⟩) (by first | omega | (simp; done) | (simp; omega))]; go_simp; done); have hk_w1_0_4 : w1.cell? ⟨w.heap.size, 4, none⟩ = some (.int .u64 (wd 2 s)) := (by rw [hb1.cell (p := ⟨w.heap.size, 4, none⟩) (by first | omega | (simp; done) | (simp; omega))]; go_simp; done); have hk_w1_0_5 : w1.cell? ⟨w.heap.size, 5, none⟩ = some (.int .u64 (wd 3 s)) := (by rw [hb1.cell (p := ⟨w.heap.size, 5, none⟩) (by first | omega | (simp; done) | (simp; omega))]; go_simp; done); have hk_w1_0_6 : w1.cell? ⟨w.heap.size, 6, none⟩ = some (.bool l) := (by rw [hb1.cell (p := ⟨w.heap.size, 6, none⟩) (by first | omega | (simp; done) | (simp; omega))]; go_simp; done)
  go_simp
  go_wp2_with fail
  refine (C2.out _).mono ?_
  rintro e w2 ⟨rfl, hb2⟩; have hz_w2 := (hb2).size; (try simp at hz_w2); have hl_w2_0 : w.heap.size < w2.heap.size := (by omega); have hk_w2_0_0 : w2.cell? ⟨w.heap.size, 0, none⟩ = some (.bool ng) := (by rw [hb2.cell (p := ⟨w.heap.size, 0, none⟩) (by first | omega | (simp; done) | (simp; omega))]; go_simp; done); have hk_w2_0_1 : w2.cell? ⟨w.heap.size, 1, none⟩ = some (.int .i64 e0) := (by rw [hb2.cell (p := ⟨w.heap.size, 1, none⟩) (by first | omega | (simp; done) | (simp; omega))]; go_simp; done); have hk_w2_0_2 : w2.cell? ⟨w.heap.size, 2, none⟩ = some (.int .u64 (wd 0 s)) := (by rw [hb2.cell (p := ⟨w.heap.size, 2, none⟩) (by first | omega | (simp; done) | (simp; omega))]; go_simp; done); have hk_w2_0_3 : w2.cell? ⟨w.heap.size, 3, none⟩ = some (.int .u64 (wd 1 s)) := (by rw [hb2.cell (p := ⟨w.heap.size, 3, none⟩) (by first | omega | (simp; done) | (simp; omega))]; go_simp; done); have hk_w2_0_4 : w2.cell? ⟨w.heap.size, 4, none⟩ = some (.int .u64 (wd 2 s)) := (by rw [hb2.cell (p := ⟨w.heap.size, 4, none⟩) (by first | omega | (simp; done) | (simp; omega))]; go_simp; done); have hk_w2_0_5 : w2.cell? ⟨w.heap.size, 5, none⟩ = some (.int .u64 (wd 3 s)) := (by rw [hb2.cell (p := ⟨w.heap.size, 5, none⟩) (by first | omega | (simp; done) | (simp; omega))]; go_simp; done); have hk_w2_0_6 : w2.cell? ⟨w.heap.size, 6, none⟩ = some (.bool l) := (by rw [hb2.cell (p := ⟨w.heap.size, 6, none⟩) (by first | omega | (simp; done) | (simp; omega))]; go_simp; done); have hk_w2_1_0 : w2.cell? ⟨w1.heap.size, 0, none⟩ = some (.int .u64 (wd 0 Q)) := (by rw [hb2.cell (p := ⟨w1.heap.size, 0, none⟩) (by first | omega | (simp; done) | (simp; omega))]; go_simp; done); have hk_w2_1_1 : w2.cell? ⟨w1.heap.size, 1, none⟩ = some (.int .u64 (wd 1 Q)) := (by rw [hb2.cell (p := ⟨w1.heap.size, 1, none⟩) (by first | omega | (simp; done) | (simp; omega))]; go_simp; done); have hk_w2_1_2 : w2.cell? ⟨w1.heap.size, 2, none⟩ = some (.int .u64 (wd 2 Q)) := (by rw [hb2.cell (p := ⟨w1.heap.size, 2, none⟩) (by first | omega | (simp; done) | (simp; omega))]; go_simp; done); have hk_w2_1_3 : w2.cell? ⟨w1.heap.size, 3, none⟩ = some (.int .u64 (wd 3 Q)) := (by rw [hb2.cell (p := ⟨w1.heap.size, 3, none⟩) (by first | omega | (simp; done) | (simp; omega))]; go_simp; done)
  have hl1 : w1.heap.size < w2.heap.size := (by have := hb2.size; simp at this; omega)
  go_simp
  repeat (any_goals (first | go_values | go_skip | go_guarded | go_step | go_upon))
  go_quiet (fail)
  go_wp2_with fail
  refine (up_any m hm ng od hb true _).mono ?_
  rintro e w3 ⟨rfl, rfl⟩
  go_simp
  repeat (any_goals (first | go_values | go_skip | go_guarded | go_step | go_upon))
  all_goals go_ret2
  all_goals refine ⟨ret_ub' rfl (by first | (simp; done) | simp_all), ?_⟩
  all_goals (repeat' (first | with_reducible exact Below.refl _ _ | with_reducible assumption | with_reducible refine Below.drew ?_ | with_reducible refine bdrewN ?_ _ | with_reducible refine Below.alloc ?_ ?_ _ | with_reducible refine Below.setCell ?_ ?_ _ | with_reducible refine Below.trans ?_ (Below.mono (by assumption) ?_) | omega | (simp; done) | (simp; omega)))
set_option maxRecDepth 100000 in
set_option maxHeartbeats 2000000 in
theorem cut_high_fu (ng l : Bool) (e0 : Int) (s Q H : Nat) (lq od hb : Bool) (k k1 : Int) (m q' : Nat) (hm : m < 5) (hk : ¬ k ≤ 0) (hk1 : wrap64 (k - 1) = k1)
    (C1 : Hid (∀ W : World, Calls Tryd.prog 63 #[W4 s, .int .i64 k] W fun e w' => e = .returned (.tuple #[W4 Q, .bool lq]) ∧ Below W.heap.size W w'))
    (C2 : Hid (∀ W : World, Calls Tryd.prog 63 #[W4 s, .int .i64 k1] W fun e w' => e = .returned (.tuple #[W4 H, .bool false]) ∧ Below W.heap.size W w'))
    (hh : ((wd 0 H : Int) % 2 == 1) = hb) (ho : ((wd 0 Q : Int) % 2 == 1) = od) (hu : upB m ng od hb l = true) (hq : IntKind.u64.wrap ((wd 0 Q : Int) + 1) = q') (w : World) :
    Calls Tryd.prog 56 #[NV ng e0 s l, .int .i64 k, .int .u8 m] w fun e w' => e = .returned (.tuple #[.int .u64 q', .bool (hb || l)]) ∧ Below w.heap.size w w' := by
  go_enter Tryd.func56, Tryd.ntmps56
  go_wp2_with fail
  refine (C1.out _).mono ?_
  rintro e w1 ⟨rfl, hb1⟩; have hz_w1 := (hb1).size; (try simp at hz_w1); have hl_w1_0 : w.heap.size < w1.heap.size := (by omega); have hk_w1_0_0 : w1.cell? ⟨w.heap.size, 0, none⟩ = some (.bool ng) := (by rw [hb1.cell (p := ⟨w.heap.size, 0, none⟩) (by first | omega | (simp; done) | (simp; omega))]; go_simp; done); have hk_w1_0_1 : w1.cell? ⟨w.heap.size, 1, none⟩ = some (.int .i64 e0) := (by rw [hb1.cell (p := ⟨w.heap.size, 1, none⟩) (by first | omega | (simp; done) | (simp; omega))]; go_simp; done); have hk_w1_0_2 : w1.cell? ⟨w.heap.size, 2, none⟩ = some (.int .u64 (wd 0 s)) := (by rw [hb1.cell (p := ⟨w.heap.size, 2, none⟩) (by first | omega | (simp; done) | (simp; omega))]; go_simp; done); have hk_w1_0_3 : w1.cell? ⟨w.heap.size, 3, none⟩ = some (.int .u64 (wd 1 s)) := (by rw [hb1.cell (p := ⟨w.heap.size, 3, none⟩) (by first | omega | (simp; done) | (simp; omega))]; go_simp; done); have hk_w1_0_4 : w1.cell? ⟨w.heap.size, 4, none⟩ = some (.int .u64 (wd 2 s)) := (by rw [hb1.cell (p := ⟨w.heap.size, 4, none⟩) (by first | omega | (simp; done) | (simp; omega))]; go_simp; done); have hk_w1_0_5 : w1.cell? ⟨w.heap.size, 5, none⟩ = some (.int .u64 (wd 3 s)) := (by rw [hb1.cell (p := ⟨w.heap.size, 5, none⟩) (by first | omega | (simp; done) | (simp; omega))]; go_simp; done); have hk_w1_0_6 : w1.cell? ⟨w.heap.size, 6, none⟩ = some (.bool l) := (by rw [hb1.cell (p := ⟨w.heap.size, 6, none⟩) (by first | omega | (simp; done) | (simp; omega))]; go_simp; done)
  go_simp
  go_wp2_with fail
  refine (C2.out _).mono ?_
  rintro e w2 ⟨rfl, hb2⟩; have hz_w2 := (hb2).size; (try simp at hz_w2); have hl_w2_0 : w.heap.size < w2.heap.size := (by omega); have hk_w2_0_0 : w2.cell? ⟨w.heap.size, 0, none⟩ = some (.bool ng) := (by rw [hb2.cell (p := ⟨w.heap.size, 0, none⟩) (by first | omega | (simp; done) | (simp; omega))]; go_simp; done); have hk_w2_0_1 : w2.cell? ⟨w.heap.size, 1, none⟩ = some (.int .i64 e0) := (by rw [hb2.cell (p := ⟨w.heap.size, 1, none⟩) (by first | omega | (simp; done) | (simp; omega))]; go_simp; done); have hk_w2_0_2 : w2.cell? ⟨w.heap.size, 2, none⟩ = some (.int .u64 (wd 0 s)) := (by rw [hb2.cell (p := ⟨w.heap.size, 2, none⟩) (by first | omega | (simp; done) | (simp; omega))]; go_simp; done); have hk_w2_0_3 : w2.cell? ⟨w.heap.size, 3, none⟩ = some (.int .u64 (wd 1 s)) := (by rw [hb2.cell (p := ⟨w.heap.size, 3, none⟩) (by first | omega | (simp; done) | (simp; omega))]; go_simp; done); have hk_w2_0_4 : w2.cell? ⟨w.heap.size, 4, none⟩ = some (.int .u64 (wd 2 s)) := (by rw [hb2.cell (p := ⟨w.heap.size, 4, none⟩) (by first | omega | (simp; done) | (simp; omega))]; go_simp; done); have hk_w2_0_5 : w2.cell? ⟨w.heap.size, 5, none⟩ = some (.int .u64 (wd 3 s)) := (by rw [hb2.cell (p := ⟨w.heap.size, 5, none⟩) (by first | omega | (simp; done) | (simp; omega))]; go_simp; done); have hk_w2_0_6 : w2.cell? ⟨w.heap.size, 6, none⟩ = some (.bool l) := (by rw [hb2.cell (p := ⟨w.heap.size, 6, none⟩) (by first | omega | (simp; done) | (simp; omega))]; go_simp; done); have hk_w2_1_0 : w2.cell? ⟨w1.heap.size, 0, none⟩ = some (.int .u64 (wd 0 Q)) := (by rw [hb2.cell (p := ⟨w1.heap.size, 0, none⟩) (by first | omega | (simp; done) | (simp; omega))]; go_simp; done); have hk_w2_1_1 : w2.cell? ⟨w1.heap.size, 1, none⟩ = some (.int .u64 (wd 1 Q)) := (by rw [hb2.cell (p := ⟨w1.heap.size, 1, none⟩) (by first | omega | (simp; done) | (simp; omega))]; go_simp; done); have hk_w2_1_2 : w2.cell? ⟨w1.heap.size, 2, none⟩ = some (.int .u64 (wd 2 Q)) := (by rw [hb2.cell (p := ⟨w1.heap.size, 2, none⟩) (by first | omega | (simp; done) | (simp; omega))]; go_simp; done); have hk_w2_1_3 : w2.cell? ⟨w1.heap.size, 3, none⟩ = some (.int .u64 (wd 3 Q)) := (by rw [hb2.cell (p := ⟨w1.heap.size, 3, none⟩) (by first | omega | (simp; done) | (simp; omega))]; go_simp; done)
  have hl1 : w1.heap.size < w2.heap.size := (by have := hb2.size; simp at this; omega)
  go_simp
  repeat (any_goals (first | go_values | go_skip | go_guarded | go_step | go_upon))
  go_quiet (fail)
  go_wp2_with fail
  refine (up_any m hm ng od hb l _).mono ?_
  rintro e w3 ⟨rfl, rfl⟩
  go_simp
  repeat (any_goals (first | go_values | go_skip | go_guarded | go_step | go_upon))
  all_goals go_ret2
  all_goals refine ⟨ret_ub' rfl (by first | (simp; done) | simp_all), ?_⟩
  all_goals (repeat' (first | with_reducible exact Below.refl _ _ | with_reducible assumption | with_reducible refine Below.drew ?_ | with_reducible refine bdrewN ?_ _ | with_reducible refine Below.alloc ?_ ?_ _ | with_reducible refine Below.setCell ?_ ?_ _ | with_reducible refine Below.trans ?_ (Below.mono (by assumption) ?_) | omega | (simp; done) | (simp; omega)))
set_option maxRecDepth 100000 in
set_option maxHeartbeats 2000000 in
theorem cut_high_fd (ng l : Bool) (e0 : Int) (s Q H : Nat) (lq od hb : Bool) (k k1 : Int) (m q' : Nat) (hm : m < 5) (hk : ¬ k ≤ 0) (hk1 : wrap64 (k - 1) = k1)
    (C1 : Hid (∀ W : World, Calls Tryd.prog 63 #[W4 s, .int .i64 k] W fun e w' => e = .returned (.tuple #[W4 Q, .bool lq]) ∧ Below W.heap.size W w'))
    (C2 : Hid (∀ W : World, Calls Tryd.prog 63 #[W4 s, .int .i64 k1] W fun e w' => e = .returned (.tuple #[W4 H, .bool false]) ∧ Below W.heap.size W w'))
    (hh : ((wd 0 H : Int) % 2 == 1) = hb) (ho : ((wd 0 Q : Int) % 2 == 1) = od) (hu : upB m ng od hb l = false) (hq : IntKind.u64.wrap ((wd 0 Q : Int) + 1) = q') (w : World) :
    Calls Tryd.prog 56 #[NV ng e0 s l, .int .i64 k, .int .u8 m] w fun e w' => e = .returned (.tuple #[.int .u64 (wd 0 Q), .bool (hb || l)]) ∧ Below w.heap.size w w' := by
  go_enter Tryd.func56, Tryd.ntmps56
  go_wp2_with fail
  refine (C1.out _).mono ?_
  rintro e w1 ⟨rfl, hb1⟩; have hz_w1 := (hb1).size; (try simp at hz_w1); have hl_w1_0 : w.heap.size < w1.heap.size := (by omega); have hk_w1_0_0 : w1.cell? ⟨w.heap.size, 0, none⟩ = some (.bool ng) := (by rw [hb1.cell (p := ⟨w.heap.size, 0, none⟩) (by first | omega | (simp; done) | (simp; omega))]; go_simp; done); have hk_w1_0_1 : w1.cell? ⟨w.heap.size, 1, none⟩ = some (.int .i64 e0) := (by rw [hb1.cell (p := ⟨w.heap.size, 1, none⟩) (by first | omega | (simp; done) | (simp; omega))]; go_simp; done); have hk_w1_0_2 : w1.cell? ⟨w.heap.size, 2, none⟩ = some (.int .u64 (wd 0 s)) := (by rw [hb1.cell (p := ⟨w.heap.size, 2, none⟩) (by first | omega | (simp; done) | (simp; omega))]; go_simp; done); have hk_w1_0_3 : w1.cell? ⟨w.heap.size, 3, none⟩ = some (.int .u64 (wd 1 s)) := (by rw [hb1.cell (p := ⟨w.heap.size, 3, none⟩) (by first | omega | (simp; done) | (simp; omega))]; go_simp; done); have hk_w1_0_4 : w1.cell? ⟨w.heap.size, 4, none⟩ = some (.int .u64 (wd 2 s)) := (by rw [hb1.cell (p := ⟨w.heap.size, 4, none⟩) (by first | omega | (simp; done) | (simp; omega))]; go_simp; done); have hk_w1_0_5 : w1.cell? ⟨w.heap.size, 5, none⟩ = some (.int .u64 (wd 3 s)) := (by rw [hb1.cell (p := ⟨w.heap.size, 5, none⟩) (by first | omega | (simp; done) | (simp; omega))]; go_simp; done); have hk_w1_0_6 : w1.cell? ⟨w.heap.size, 6, none⟩ = some (.bool l) := (by rw [hb1.cell (p := ⟨w.heap.size, 6, none⟩) (by first | omega | (simp; done) | (simp; omega))]; go_simp; done)
  go_simp
  go_wp2_with fail
  refine (C2.out _).mono ?_
  rintro e w2 ⟨rfl, hb2⟩; have hz_w2 := (hb2).size; (try simp at hz_w2); have hl_w2_0 : w.heap.size < w2.heap.size := (by omega); have hk_w2_0_0 : w2.cell? ⟨w.heap.size, 0, none⟩ = some (.bool ng) := (by rw [hb2.cell (p := ⟨w.heap.size, 0, none⟩) (by first | omega | (simp; done) | (simp; omega))]; go_simp; done); have hk_w2_0_1 : w2.cell? ⟨w.heap.size, 1, none⟩ = some (.int .i64 e0) := (by rw [hb2.cell (p := ⟨w.heap.size, 1, none⟩) (by first | omega | (simp; done) | (simp; omega))]; go_simp; done); have hk_w2_0_2 : w2.cell? ⟨w.heap.size, 2, none⟩ = some (.int .u64 (wd 0 s)) := (by rw [hb2.cell (p := ⟨w.heap.size, 2, none⟩) (by first | omega | (simp; done) | (simp; omega))]; go_simp; done); have hk_w2_0_3 : w2.cell? ⟨w.heap.size, 3, none⟩ = some (.int .u64 (wd 1 s)) := (by rw [hb2.cell (p := ⟨w.heap.size, 3, none⟩) (by first | omega | (simp; done) | (simp; omega))]; go_simp; done); have hk_w2_0_4 : w2.cell? ⟨w.heap.size, 4, none⟩ = some (.int .u64 (wd 2 s)) := (by rw [hb2.cell (p := ⟨w.heap.size, 4, none⟩) (by first | omega | (simp; done) | (simp; omega))]; go_simp; done); have hk_w2_0_5 : w2.cell? ⟨w.heap.size, 5, none⟩ = some (.int .u64 (wd 3 s)) := (by rw [hb2.cell (p := ⟨w.heap.size, 5, none⟩) (by first | omega | (simp; done) | (simp; omega))]; go_simp; done); have hk_w2_0_6 : w2.cell? ⟨w.heap.size, 6, none⟩ = some (.bool l) := (by rw [hb2.cell (p := ⟨w.heap.size, 6, none⟩) (by first | omega | (simp; done) | (simp; omega))]; go_simp; done); have hk_w2_1_0 : w2.cell? ⟨w1.heap.size, 0, none⟩ = some (.int .u64 (wd 0 Q)) := (by rw [hb2.cell (p := ⟨w1.heap.size, 0, none⟩) (by first | omega | (simp; done) | (simp; omega))]; go_simp; done); have hk_w2_1_1 : w2.cell? ⟨w1.heap.size, 1, none⟩ = some (.int .u64 (wd 1 Q)) := (by rw [hb2.cell (p := ⟨w1.heap.size, 1, none⟩) (by first | omega | (simp; done) | (simp; omega))]; go_simp; done); have hk_w2_1_2 : w2.cell? ⟨w1.heap.size, 2, none⟩ = some (.int .u64 (wd 2 Q)) := (by rw [hb2.cell (p := ⟨w1.heap.size, 2, none⟩) (by first | omega | (simp; done) | (simp; omega))]; go_simp; done); have hk_w2_1_3 : w2.cell? ⟨w1.heap.size, 3, none⟩ = some (.int .u64 (wd 3 Q)) := (by rw [hb2.cell (p := ⟨w1.heap.size, 3, none⟩) (by first | omega | (simp; done) | (simp; omega))]; go_simp; done)
  have hl1 : w1.heap.size < w2.heap.size := (by have := hb2.size; simp at this; omega)
  go_simp
  repeat (any_goals (first | go_values | go_skip | go_guarded | go_step | go_upon))
  go_quiet (fail)
  go_wp2_with fail
  refine (up_any m hm ng od hb l _).mono ?_
  rintro e w3 ⟨rfl, rfl⟩
  go_simp
  repeat (any_goals (first | go_values | go_skip | go_guarded | go_step | go_upon))
  all_goals go_ret2
  all_goals refine ⟨ret_ub' rfl (by first | (simp; done) | simp_all), ?_⟩
  all_goals (repeat' (first | with_reducible exact Below.refl _ _ | with_reducible assumption | with_reducible refine Below.drew ?_ | with_reducible refine bdrewN ?_ _ | with_reducible refine Below.alloc ?_ ?_ _ | with_reducible refine Below.setCell ?_ ?_ _ | with_reducible refine Below.trans ?_ (Below.mono (by assumption) ?_) | omega | (simp; done) | (simp; omega)))
theorem beq_one (n : Nat) : ((n : Int) % 2 == 1) = decide (n % 2 = 1) := by
  by_cases h : n % 2 = 1
  · rw [decide_eq_true h, beq_iff_eq]; omega
  · rw [decide_eq_false h, beq_eq_false_iff_ne]; omega
/-- cut above 0: the number without its last k places, rounded; is it another one? -/
theorem cut_high (ng l : Bool) (e0 : Int) (s : Nat) (hs : U256 s) (k : Int) (hk : 0 < k) (hkb : k < 4294967296) (m : Nat) (hm : m < 5) (w : World) :
    Calls Tryd.prog 56 #[NV ng e0 s l, .int .i64 k, .int .u8 m] w fun e w' =>
      e = .returned (.tuple #[.int .u64 (cutUp m ng (wd 0 (s / 2 ^ k.toNat)) (decide (wd 0 (s / 2 ^ (k - 1).toNat) % 2 = 1)) (decide (s % 2 ^ (k - 1).toNat ≠ 0) || l)), .bool (decide (wd 0 (s / 2 ^ (k - 1).toNat) % 2 = 1) || (decide (s % 2 ^ (k - 1).toNat ≠ 0) || l))]) ∧ Below w.heap.size w w' := by
  have hk1 : wrap64 (k - 1) = k - 1 := by unfold wrap64; omega
  have C1 := Lib.hid (fun W => Shr_any s hs k (by omega) W)
  have C2 := Lib.hid (fun W => Shr_any s hs (k - 1) (by omega) W)
  have hQ := (wd_u64 0 (s / 2 ^ k.toNat)).out
  have ho := beq_one (wd 0 (s / 2 ^ k.toNat))
  have hh := beq_one (wd 0 (s / 2 ^ (k - 1).toNat))
  generalize s / 2 ^ k.toNat = Q at *
  generalize s / 2 ^ (k - 1).toNat = H at *
  have hq : IntKind.u64.wrap ((wd 0 Q : Int) + 1) = ((wd 0 Q + 1) % 18446744073709551616 : Nat) := by rw [IntKind.wrap_u64]; omega
  unfold cutUp
  by_cases hb : s % 2 ^ (k - 1).toNat ≠ 0
  · rw [decide_eq_true hb] at C2 ⊢
    simp only [Bool.true_or]
    by_cases hu : upB m ng (decide (wd 0 Q % 2 = 1)) (decide (wd 0 H % 2 = 1)) true = true
    · rw [if_pos hu]
      exact cut_high_tu ng l e0 s Q H _ _ _ k (k - 1) m _ hm (by omega) hk1 C1 C2 hh ho hu hq w
    · rw [if_neg hu]
      exact cut_high_td ng l e0 s Q H _ _ _ k (k - 1) m _ hm (by omega) hk1 C1 C2 hh ho (by simpa using hu) hq w
  · rw [decide_eq_false hb] at C2 ⊢
    simp only [Bool.false_or]
    by_cases hu : upB m ng (decide (wd 0 Q % 2 = 1)) (decide (wd 0 H % 2 = 1)) l = true
    · rw [if_pos hu]
      exact cut_high_fu ng l e0 s Q H _ _ _ k (k - 1) m _ hm (by omega) hk1 C1 C2 hh ho hu hq w
    · rw [if_neg hu]
      exact cut_high_fd ng l e0 s Q H _ _ _ k (k - 1) m _ hm (by omega) hk1 C1 C2 hh ho (by simpa using hu) hq w
end Go.Proofs.YtldmbneckcjonabDoor
namespace Go.Proofs.YtldmbneckcjonabDoor
/-- n without its last K places, rounded; l: is more left behind n? -/
def cutS (m : Nat) (ng : Bool) (n : Nat) (l : Bool) (K : Int) : Nat := if K ≤ 0 then n * 2 ^ (-K).toNat else if upB m ng (decide (n / 2 ^ K.toNat % 2 = 1)) (halfB n K.toNat) (belowB n K.toNat || l) then n / 2 ^ K.toNat + 1 else n / 2 ^ K.toNat
def lostS (n : Nat) (l : Bool) (K : Int) : Bool := if K ≤ 0 then l else halfB n K.toNat || (belowB n K.toNat || l)
def topS (m : Nat) (ng : Bool) (n : Nat) (l : Bool) (e : Int) : Int := (bl (cutS m ng n l ((bl n : Int) - 53)) : Int) + e + bl n - 54
@[irreducible] def roundS (m : Nat) (ng : Bool) (n : Nat) (l : Bool) (e : Int) : Nat × Nat :=
  if 1024 ≤ topS m ng n l e then (signN ng + (if m = 2 ∨ (m = 3 ∧ ng = true) ∨ (m = 4 ∧ ng = false) then 9218868437227405311 else 9218868437227405312), 5)
  else if topS m ng n l e < -1022 then (signN ng + cutS m ng n l (-1074 - e), if lostS n l (-1074 - e) then 3 else 0)
  else (signN ng + (topS m ng n l e + 1023).toNat * 4503599627370496 + ((if bl (cutS m ng n l ((bl n : Int) - 53)) = 54 then cutS m ng n l ((bl n : Int) - 53) / 2 else cutS m ng n l ((bl n : Int) - 53)) - 4503599627370496), if lostS n l ((bl n : Int) - 53) then 1 else 0)
theorem cutS_pos {m n k : Nat} {ng l : Bool} (hk : 0 < k) : cutS m ng n l k = if upB m ng (decide (n / 2 ^ k % 2 = 1)) (halfB n k) (belowB n k || l) then n / 2 ^ k + 1 else n / 2 ^ k := by
  unfold cutS; rw [if_neg (by omega), Int.toNat_natCast]
theorem lostS_pos {n k : Nat} {l : Bool} (hk : 0 < k) : lostS n l k = (halfB n k || (belowB n k || l)) := by
  unfold lostS; rw [if_neg (by omega), Int.toNat_natCast]
theorem cutS_neg {m n : Nat} {ng l : Bool} {K : Int} (hK : K ≤ 0) : cutS m ng n l K = n * 2 ^ (-K).toNat := by unfold cutS; rw [if_pos hK]
theorem lostS_neg {n : Nat} {l : Bool} {K : Int} (hK : K ≤ 0) : lostS n l K = l := by unfold lostS; rw [if_pos hK]
theorem cutS_between {m n k : Nat} {ng l : Bool} (hk : 0 < k) : n / 2 ^ k ≤ cutS m ng n l k ∧ cutS m ng n l k ≤ n / 2 ^ k + 1 := by
  unfold cutS; rw [if_neg (by omega), Int.toNat_natCast]; split <;> omega
theorem cutS_size {m n : Nat} {ng l : Bool} (h : n ≠ 0) : 2 ^ 52 ≤ cutS m ng n l ((bl n : Int) - 53) ∧ cutS m ng n l ((bl n : Int) - 53) ≤ 2 ^ 53 := by
  have h1 := two_bl_le h
  have h2 := lt_two_bl n
  have h0 := bl_pos.2 h
  by_cases hK : (bl n : Int) - 53 ≤ 0
  · have e1 : cutS m ng n l ((bl n : Int) - 53) = n * 2 ^ (-((bl n : Int) - 53)).toNat := by unfold cutS; rw [if_pos hK]
    rw [e1]
    have e : (-((bl n : Int) - 53)).toNat = 53 - bl n := by omega
    rw [e]
    constructor
    · have := Nat.mul_le_mul_right (2 ^ (53 - bl n)) h1
      rw [← Nat.pow_add, show bl n - 1 + (53 - bl n) = 52 from by omega] at this
      exact this
    · have := Nat.mul_le_mul_right (2 ^ (53 - bl n)) (Nat.le_of_lt h2)
      rw [← Nat.pow_add, show bl n + (53 - bl n) = 53 from by omega] at this
      exact this
  · obtain ⟨k, hk⟩ : ∃ k, bl n = k + 53 := ⟨bl n - 53, by omega⟩
    have hkp : 0 < k := by omega
    rw [hk] at h1 h2 ⊢
    rw [show ((k + 53 : Nat) : Int) - 53 = (k : Int) from by omega]
    obtain ⟨c1, c2⟩ := cutS_between (m := m) (n := n) (ng := ng) (l := l) hkp
    have hp := Nat.two_pow_pos k
    have d1 : 2 ^ 52 ≤ n / 2 ^ k := by
      rw [Nat.le_div_iff_mul_le hp, ← Nat.pow_add]; rw [show k + 53 - 1 = 52 + k from by omega] at h1; exact h1
    have d2 : n / 2 ^ k < 2 ^ 53 := by
      rw [Nat.div_lt_iff_lt_mul hp, ← Nat.pow_add]; rw [show k + 53 = 53 + k from by omega] at h2; exact h2
    omega
/-- s is n without its last j places, l whether they, or what was left, were something. -/
def Cuts (n : Nat) (l0 : Bool) (j s : Nat) (l : Bool) : Prop := s = n / 2 ^ j ∧ l = (decide (n % 2 ^ j ≠ 0) || l0)
theorem shrink_half {n j k : Nat} (hk : 0 < k) : halfB n (k + j) = halfB (n / 2 ^ j) k := by
  unfold halfB
  rw [Nat.div_div_eq_div_mul, ← Nat.pow_add, show k + j - 1 = j + (k - 1) from by omega]
theorem shrink_below {n j k : Nat} (hk : 0 < k) (l0 : Bool) : (belowB n (k + j) || l0) = (belowB (n / 2 ^ j) k || (decide (n % 2 ^ j ≠ 0) || l0)) := by
  unfold belowB
  rw [show k + j - 1 = j + (k - 1) from by omega, Nat.pow_add, Nat.mod_mul]
  have hp := Nat.two_pow_pos j
  rw [← Bool.or_assoc]
  congr 1
  generalize n % 2 ^ j = t
  generalize n / 2 ^ j % 2 ^ (k - 1) = r
  rw [Bool.eq_iff_iff, Bool.or_eq_true, decide_eq_true_eq, decide_eq_true_eq, decide_eq_true_eq]
  constructor
  · intro h
    by_cases hr : r = 0
    · subst hr; exact .inr (by rw [Nat.mul_zero] at h; omega)
    · exact .inl hr
  · intro h hz
    have h1 : t = 0 := by omega
    have h2 : 2 ^ j * r = 0 := by omega
    rcases Nat.mul_eq_zero.1 h2 with h3 | h3
    · omega
    · rcases h with h | h <;> contradiction
theorem shrink_cut {m n j s : Nat} {ng l0 l : Bool} {K : Int} (h : Cuts n l0 j s l) (hK : 0 < K) : cutS m ng s l K = cutS m ng n l0 (K + j) ∧ lostS s l K = lostS n l0 (K + j) := by
  obtain ⟨rfl, rfl⟩ := h
  obtain ⟨k, rfl⟩ : ∃ k : Nat, K = k := ⟨K.toNat, by omega⟩
  have hk : 0 < k := by omega
  rw [← Int.natCast_add, cutS_pos hk, lostS_pos hk, cutS_pos (k := k + j) (by omega), lostS_pos (k := k + j) (by omega), shrink_half hk, shrink_below hk]
  have e2 : n / 2 ^ (k + j) = n / 2 ^ j / 2 ^ k := by rw [Nat.div_div_eq_div_mul, ← Nat.pow_add, Nat.add_comm]
  rw [e2]
  exact ⟨rfl, rfl⟩
theorem roundS_shrink {m n j s : Nat} {ng l0 l : Bool} {e : Int} (h : Cuts n l0 j s l) (hs : 54 ≤ bl s) : roundS m ng s l (e + j) = roundS m ng n l0 e := by
  have hs0 : s ≠ 0 := bl_pos.1 (by omega)
  have hb : bl n = bl s + j := by rw [h.1] at hs0 ⊢; exact bl_high hs0
  have hsz := cutS_size (m := m) (ng := ng) (l := l) hs0
  obtain ⟨c1, c2⟩ := shrink_cut (m := m) (ng := ng) h (K := (bl s : Int) - 53) (by omega)
  have hKe : (bl s : Int) - 53 + j = (bl n : Int) - 53 := by omega
  rw [hKe] at c1 c2
  have ht : topS m ng s l (e + j) = topS m ng n l0 e := by unfold topS; rw [c1]; omega
  have hbc : 53 ≤ bl (cutS m ng s l ((bl s : Int) - 53)) := lt_bl.2 hsz.1
  unfold roundS
  by_cases h2 : topS m ng s l (e + j) < -1022
  · have hlow : 0 < -1074 - (e + j) := by unfold topS at h2; omega
    obtain ⟨d1, d2⟩ := shrink_cut (m := m) (ng := ng) h hlow
    rw [show -1074 - (e + (j : Int)) + j = -1074 - e from by omega] at d1 d2
    rw [d1, d2, ht, c1, c2]
  · rw [c1, c2, ht]
    rw [ht] at h2
    by_cases h3 : 1024 ≤ topS m ng n l0 e
    · rw [if_pos h3, if_pos h3]
    · rw [if_neg h3, if_neg h3, if_neg h2, if_neg h2]
/-- Zeros put on behind. -/
theorem scale_cut {m n j : Nat} {ng : Bool} {K : Int} : cutS m ng (n * 2 ^ j) false (K + j) = cutS m ng n false K ∧ lostS (n * 2 ^ j) false (K + j) = lostS n false K := by
  by_cases hK : 0 < K
  · have h : Cuts (n * 2 ^ j) false j n false := ⟨by rw [Nat.mul_div_cancel _ (Nat.two_pow_pos j)], by rw [Nat.mul_mod_left]; rfl⟩
    obtain ⟨c1, c2⟩ := shrink_cut (m := m) (ng := ng) h hK
    exact ⟨c1.symm, c2.symm⟩
  · by_cases hKj : K + j ≤ 0
    · rw [cutS_neg hKj, cutS_neg (by omega), lostS_neg hKj, lostS_neg (by omega), Nat.mul_assoc, ← Nat.pow_add, show j + (-(K + (j : Int))).toNat = (-K).toNat from by omega]
      exact ⟨rfl, rfl⟩
    · obtain ⟨k, hk⟩ : ∃ k : Nat, K + j = k := ⟨(K + j).toNat, by omega⟩
      obtain ⟨i, hi⟩ : ∃ i : Nat, (-K).toNat = i := ⟨_, rfl⟩
      have hj : j = k + i := by omega
      have hkp : 0 < k := by omega
      rw [hk, cutS_pos hkp, lostS_pos hkp, cutS_neg (by omega), lostS_neg (by omega), hi]
      have e1 : n * 2 ^ j = n * 2 ^ i * 2 ^ k := by rw [hj, Nat.pow_add, Nat.mul_comm (2 ^ k), Nat.mul_assoc]
      have e2 : n * 2 ^ j = n * 2 ^ i * 2 * 2 ^ (k - 1) := by
        rw [e1, Nat.mul_assoc (n * 2 ^ i) 2]
        congr 1
        rw [← Nat.pow_succ']; congr 1; omega
      have h1 : n * 2 ^ j / 2 ^ k = n * 2 ^ i := by rw [e1, Nat.mul_div_cancel _ (Nat.two_pow_pos k)]
      have h2 : halfB (n * 2 ^ j) k = false := by unfold halfB; rw [e2, Nat.mul_div_cancel _ (Nat.two_pow_pos _), Nat.mul_mod_left]; rfl
      have h3 : belowB (n * 2 ^ j) k = false := by unfold belowB; rw [e2, Nat.mul_mod_left]; rfl
      rw [h2, h3, h1]
      have h4 : ∀ o, upB m ng o false (false || false) = false := by intro o; unfold upB; cases o <;> cases ng <;> simp
      rw [h4]
      exact ⟨rfl, rfl⟩
theorem roundS_scale {m n j : Nat} {ng : Bool} {e : Int} (h0 : n ≠ 0) : roundS m ng (n * 2 ^ j) false e = roundS m ng n false (e + j) := by
  have hb : bl (n * 2 ^ j) = bl n + j := bl_shift h0
  obtain ⟨c1, c2⟩ := scale_cut (m := m) (ng := ng) (n := n) (j := j) (K := (bl n : Int) - 53)
  have hKe : (bl n : Int) - 53 + j = ((bl n + j : Nat) : Int) - 53 := by omega
  rw [hKe] at c1 c2
  obtain ⟨d1, d2⟩ := scale_cut (m := m) (ng := ng) (n := n) (j := j) (K := -1074 - (e + j))
  rw [show -1074 - (e + (j : Int)) + j = -1074 - e from by omega] at d1 d2
  have ht : topS m ng (n * 2 ^ j) false e = topS m ng n false (e + j) := by unfold topS; rw [hb, c1]; omega
  unfold roundS
  rw [ht, hb, c1, c2, d1, d2]
/-- One digit more behind it, in place of the mark. -/
theorem roundS_mark {m n : Nat} {ng wh : Bool} {e : Int} (hs : 54 ≤ bl n) : roundS m ng (mk2 n wh) false (e - 1) = roundS m ng n (!wh) e := by
  have h : Cuts (mk2 n wh) false 1 n (!wh) := by
    unfold mk2 Cuts
    rw [Nat.pow_one]
    cases wh
    · rw [if_neg (by decide)]; exact ⟨by omega, by rw [show (n * 2 + 1) % 2 = 1 from by omega]; rfl⟩
    · rw [if_pos rfl]; exact ⟨by omega, by rw [show (n * 2 + 0) % 2 = 0 from by omega]; rfl⟩
  have := roundS_shrink (m := m) (ng := ng) (e := e - 1) h hs
  rw [show e - 1 + ((1 : Nat) : Int) = e from by omega] at this
  exact this.symm
/-- A number times 2^e, as so many 2^-5000. -/
def val (n : Nat) (e : Int) : Nat := n * 2 ^ (e + 5000).toNat
theorem roundS_val {m n : Nat} {ng : Bool} {e : Int} (h0 : n ≠ 0) (he : -5000 ≤ e) : roundS m ng n false e = roundS m ng (val n e) false (-5000) := by
  unfold val; rw [roundS_scale h0]; congr 1; omega
/-- The number s with mark l, times 2^e, is V so many 2^-5000. -/
theorem roundS_of {m s V : Nat} {ng l l0 : Bool} {e : Int} (he : -5000 ≤ e) (h : Cuts V l0 (e + 5000).toNat s l) (hs : 54 ≤ bl s) : roundS m ng s l e = roundS m ng V l0 (-5000) := by
  have := roundS_shrink (m := m) (ng := ng) (e := -5000) h hs
  rw [show -5000 + (((e + 5000).toNat : Nat) : Int) = e from by omega] at this
  exact this
end Go.Proofs.YtldmbneckcjonabDoor
namespace Go.Proofs.YtldmbneckcjonabDoor
theorem Cuts.trans {n s t i j : Nat} {l0 l l' : Bool} (h1 : Cuts n l0 i s l) (h2 : Cuts s l j t l') : Cuts n l0 (i + j) t l' := by
  obtain ⟨rfl, rfl⟩ := h1
  obtain ⟨rfl, rfl⟩ := h2
  refine ⟨by rw [Nat.pow_add, Nat.div_div_eq_div_mul], ?_⟩
  rw [Nat.pow_add, Nat.mod_mul, ← Bool.or_assoc]
  congr 1
  have hp := Nat.two_pow_pos i
  generalize n % 2 ^ i = t
  generalize n / 2 ^ i % 2 ^ j = r
  rw [Bool.eq_iff_iff, Bool.or_eq_true, decide_eq_true_eq, decide_eq_true_eq, decide_eq_true_eq]
  constructor
  · intro h hz
    have h1 : t = 0 := by omega
    have h2 : 2 ^ i * r = 0 := by omega
    rcases Nat.mul_eq_zero.1 h2 with h3 | h3
    · omega
    · rcases h with h | h <;> contradiction
  · intro h
    by_cases hr : r = 0
    · subst hr; exact .inr (by rw [Nat.mul_zero] at h; omega)
    · exact .inl hr
theorem Cuts.zero (n : Nat) (l : Bool) : Cuts n l 0 n l := ⟨by rw [Nat.pow_zero, Nat.div_one], by rw [Nat.pow_zero, Nat.mod_one]; rfl⟩
theorem Cuts.scaled (n j : Nat) : Cuts (n * 2 ^ j) false j n false := ⟨by rw [Nat.mul_div_cancel _ (Nat.two_pow_pos j)], by rw [Nat.mul_mod_left]; rfl⟩
theorem Cuts.exact_of {n s j : Nat} {l0 : Bool} (h : Cuts n l0 j s false) : n = s * 2 ^ j ∧ l0 = false := by
  obtain ⟨rfl, h⟩ := h
  have h' := h.symm
  rw [Bool.or_eq_false_iff, decide_eq_false_iff_not] at h'
  have := Nat.mod_add_div n (2 ^ j)
  refine ⟨?_, h'.2⟩
  rw [Nat.mul_comm]; omega
/-- A fraction, to more or fewer places. -/
theorem Cuts.frac {X Y : Nat} (hY : 0 < Y) (p j : Nat) : Cuts (X * 2 ^ (p + j) / Y) (decide (X * 2 ^ (p + j) % Y ≠ 0)) j (X * 2 ^ p / Y) (decide (X * 2 ^ p % Y ≠ 0)) := by
  have hp := Nat.two_pow_pos j
  have e : X * 2 ^ (p + j) = X * 2 ^ p * 2 ^ j := by rw [Nat.pow_add, Nat.mul_assoc]
  have h1 : X * 2 ^ (p + j) / Y / 2 ^ j = X * 2 ^ p / Y := by rw [Nat.div_div_eq_div_mul, e, Nat.mul_div_mul_right _ _ hp]
  have h2 : X * 2 ^ (p + j) % (Y * 2 ^ j) = X * 2 ^ p % Y * 2 ^ j := by rw [e, Nat.mul_mod_mul_right]
  rw [Nat.mod_mul] at h2
  refine ⟨h1.symm, ?_⟩
  generalize X * 2 ^ (p + j) % Y = t at *
  generalize X * 2 ^ (p + j) / Y % 2 ^ j = r at *
  generalize X * 2 ^ p % Y = u at *
  rw [Bool.eq_iff_iff, Bool.or_eq_true, decide_eq_true_eq, decide_eq_true_eq, decide_eq_true_eq]
  constructor
  · intro hu
    by_cases hr : r = 0
    · refine .inr fun ht => hu ?_
      subst hr ht
      rw [Nat.mul_zero] at h2
      rcases Nat.mul_eq_zero.1 (show u * 2 ^ j = 0 by omega) with h3 | h3 <;> omega
    · exact .inl hr
  · intro h hu
    subst hu
    rw [Nat.zero_mul] at h2
    have h3 : Y * r = 0 := by omega
    rcases Nat.mul_eq_zero.1 h3 with h4 | h4
    · omega
    · rcases h with h | h
      · exact h h4
      · omega
theorem bl_frac {X Y p : Nat} (hX : X ≠ 0) (hY : 0 < Y) : bl X + p ≤ bl (X * 2 ^ p / Y) + bl Y := by
  have h1 : 2 ^ (bl X - 1 + p) ≤ X * 2 ^ p := by rw [Nat.pow_add]; exact Nat.mul_le_mul_right _ (two_bl_le hX)
  have h2 := lt_two_bl Y
  have h0 := bl_pos.2 hX
  by_cases hc : bl Y ≤ bl X - 1 + p
  · have h3 : 2 ^ (bl X - 1 + p - bl Y) ≤ X * 2 ^ p / Y := by
      rw [Nat.le_div_iff_mul_le hY]
      refine Nat.le_trans (Nat.mul_le_mul_left _ (Nat.le_of_lt h2)) ?_
      rw [← Nat.pow_add, show bl X - 1 + p - bl Y + bl Y = bl X - 1 + p from by omega]; exact h1
    have := lt_bl.2 h3
    omega
  · omega
theorem frac_same {m X Y p1 p2 : Nat} {ng : Bool} {t : Int} (hY : 0 < Y) (h1 : 54 ≤ bl (X * 2 ^ p1 / Y)) (h2 : 54 ≤ bl (X * 2 ^ p2 / Y)) :
    roundS m ng (X * 2 ^ p1 / Y) (decide (X * 2 ^ p1 % Y ≠ 0)) (t - p1) = roundS m ng (X * 2 ^ p2 / Y) (decide (X * 2 ^ p2 % Y ≠ 0)) (t - p2) := by
  rcases Nat.le_total p1 p2 with h | h
  · obtain ⟨j, rfl⟩ : ∃ j, p2 = p1 + j := ⟨p2 - p1, by omega⟩
    have := roundS_shrink (m := m) (ng := ng) (e := t - ((p1 + j : Nat) : Int)) (Cuts.frac (X := X) hY p1 j) h1
    rw [show t - ((p1 + j : Nat) : Int) + j = t - p1 from by omega] at this
    exact this
  · obtain ⟨j, rfl⟩ : ∃ j, p1 = p2 + j := ⟨p1 - p2, by omega⟩
    have := roundS_shrink (m := m) (ng := ng) (e := t - ((p2 + j : Nat) : Int)) (Cuts.frac (X := X) hY p2 j) h2
    rw [show t - ((p2 + j : Nat) : Int) + j = t - p2 from by omega] at this
    exact this.symm
/-- div: the program's quotient and the reference's. -/
theorem quot_same {m a b ja jb : Nat} {ng : Bool} {ea eb : Int} (ha : a ≠ 0) (hb : 0 < b) (hb53 : bl b ≤ 53) (hja : bl (a * 2 ^ ja) = 53) (hjb : bl (b * 2 ^ jb) = 53) :
    roundS m ng (a * 2 ^ ja * 2 ^ 150 / (b * 2 ^ jb)) (decide (a * 2 ^ ja * 2 ^ 150 % (b * 2 ^ jb) ≠ 0)) (ea - ja - 150 - (eb - jb)) =
    roundS m ng (mk2 (a * 2 ^ 120 / b) (decide (a * 2 ^ 120 % b = 0))) false (ea - 120 - eb - 1) := by
  have hjb2 := bl_shift (n := b) (k := jb) (by omega)
  have hb0 := bl_pos.2 (show b ≠ 0 by omega)
  have hja2 := bl_shift (n := a) (k := ja) ha
  have ha0 := bl_pos.2 ha
  have hpj := Nat.two_pow_pos jb
  obtain ⟨p, hp⟩ : ∃ p, ja + 150 = p + jb := ⟨ja + 150 - jb, by omega⟩
  have e1 : a * 2 ^ ja * 2 ^ 150 = a * 2 ^ p * 2 ^ jb := by rw [Nat.mul_assoc, ← Nat.pow_add, hp, Nat.pow_add, Nat.mul_assoc]
  have hm : decide (a * 2 ^ p * 2 ^ jb % (b * 2 ^ jb) ≠ 0) = decide (a * 2 ^ p % b ≠ 0) := by
    rw [Nat.mul_mod_mul_right, Bool.eq_iff_iff, decide_eq_true_eq, decide_eq_true_eq]
    constructor
    · intro h h2; rw [h2, Nat.zero_mul] at h; exact h rfl
    · intro h h2; rcases Nat.mul_eq_zero.1 h2 with h3 | h3
      · exact h h3
      · omega
  have f1 := bl_frac (X := a) (p := p) ha hb
  have f2 := bl_frac (X := a) (p := 120) ha hb
  rw [e1, Nat.mul_div_mul_right _ _ hpj, hm]
  have h120 : 54 ≤ bl (a * 2 ^ 120 / b) := by omega
  have hmk := roundS_mark (m := m) (ng := ng) (wh := decide (a * 2 ^ 120 % b = 0)) (e := ea - 120 - eb) h120
  have hnot : (!decide (a * 2 ^ 120 % b = 0)) = decide (a * 2 ^ 120 % b ≠ 0) := by rw [decide_not]
  rw [hmk, hnot]
  have := frac_same (m := m) (ng := ng) (t := ea - eb) (p1 := p) (p2 := 120) hb (by omega) h120
  rw [show ea - (ja : Int) - 150 - (eb - jb) = ea - eb - p from by omega, show ea - 120 - eb = ea - eb - ((120 : Nat) : Int) from by omega]
  exact this
/-- r is the square root of n. -/
def IsRoot (n r : Nat) : Prop := r * r ≤ n ∧ n < (r + 1) * (r + 1)
theorem sqLt {a b : Nat} (h : a * a < (b + 1) * (b + 1)) : a ≤ b := by
  rcases Nat.lt_or_ge b a with h1 | h1
  · exact absurd (Nat.mul_le_mul (show b + 1 ≤ a from h1) (show b + 1 ≤ a from h1)) (by omega)
  · exact h1
theorem IsRoot.uniq {n r s : Nat} (h1 : IsRoot n r) (h2 : IsRoot n s) : r = s :=
  Nat.le_antisymm (sqLt (Nat.lt_of_le_of_lt h1.1 h2.2)) (sqLt (Nat.lt_of_le_of_lt h2.1 h1.2))
theorem sq_pow (r j : Nat) : r * 2 ^ j * (r * 2 ^ j) = r * r * 2 ^ (2 * j) := by
  rw [show 2 * j = j + j from by omega, Nat.pow_add]; simp only [Nat.mul_assoc, Nat.mul_left_comm, Nat.mul_comm]
theorem Cuts.root {n s R r j : Nat} {l0 l : Bool} (h : Cuts n l0 (2 * j) s l) (hR : IsRoot n R) (hr : IsRoot s r) : Cuts R (decide (R * R ≠ n) || l0) j r (decide (r * r ≠ s) || l) := by
  obtain ⟨hs, rfl⟩ := h
  have hp := Nat.two_pow_pos j
  have hp2 := Nat.two_pow_pos (2 * j)
  have hdm := Nat.mod_add_div n (2 ^ (2 * j))
  have hml := Nat.mod_lt n hp2
  rw [← hs] at hdm
  have h1 : r * 2 ^ j ≤ R := by
    apply sqLt
    rw [sq_pow]
    have := Nat.mul_le_mul_right (2 ^ (2 * j)) hr.1
    rw [Nat.mul_comm s] at this
    exact Nat.lt_of_le_of_lt (by omega) hR.2
  have h2 : R < (r + 1) * 2 ^ j := by
    rcases Nat.lt_or_ge R ((r + 1) * 2 ^ j) with h3 | h3
    · exact h3
    · have h4 := Nat.mul_le_mul h3 h3
      rw [sq_pow] at h4
      have h5 := Nat.mul_le_mul_right (2 ^ (2 * j)) (show s + 1 ≤ (r + 1) * (r + 1) from hr.2)
      rw [Nat.add_mul, Nat.one_mul, Nat.mul_comm s] at h5
      have := hR.1
      omega
  have hq : R / 2 ^ j = r := by
    apply Nat.le_antisymm
    · exact Nat.le_of_lt_succ ((Nat.div_lt_iff_lt_mul hp).2 h2)
    · exact (Nat.le_div_iff_mul_le hp).2 h1
  refine ⟨hq.symm, ?_⟩
  rw [← Bool.or_assoc, ← Bool.or_assoc]
  congr 1
  have hRd := Nat.mod_add_div R (2 ^ j)
  rw [hq] at hRd
  rw [Bool.eq_iff_iff, Bool.or_eq_true, Bool.or_eq_true, decide_eq_true_eq, decide_eq_true_eq, decide_eq_true_eq, decide_eq_true_eq]
  constructor
  · intro h
    by_cases h3 : R % 2 ^ j = 0
    · refine .inr fun h4 => ?_
      have e : R = r * 2 ^ j := by rw [Nat.mul_comm]; omega
      rw [e, sq_pow] at h4
      have e2 : n % 2 ^ (2 * j) = 0 := by rw [← h4]; exact Nat.mul_mod_left _ _
      have e3 : s = r * r := by rw [hs, ← h4, Nat.mul_div_cancel _ hp2]
      rcases h with h | h
      · exact h e3.symm
      · exact h e2
    · exact .inl h3
  · intro h
    by_cases h3 : r * r = s
    · refine .inr fun h4 => ?_
      rw [h4, Nat.zero_add, ← h3] at hdm
      have hn : IsRoot n (r * 2 ^ j) := by
        refine ⟨by rw [sq_pow, Nat.mul_comm]; omega, ?_⟩
        have := Nat.mul_lt_mul_of_lt_of_lt (show r * 2 ^ j < r * 2 ^ j + 1 by omega) (show r * 2 ^ j < r * 2 ^ j + 1 by omega)
        rw [sq_pow, Nat.mul_comm (r * r)] at this
        omega
      have e := hR.uniq hn
      rcases h with h | h
      · exact h (by rw [e]; exact Nat.mul_mod_left _ _)
      · exact h (by rw [e, sq_pow, Nat.mul_comm]; omega)
    · exact .inl h3
theorem bl_root {n r : Nat} (h : IsRoot n r) : bl n ≤ 2 * bl r := by
  rw [bl_le, show 2 * bl r = bl r + bl r from by omega, Nat.pow_add]
  have := lt_two_bl r
  exact Nat.lt_of_lt_of_le h.2 (Nat.mul_le_mul this this)
theorem root_same {m n s R r j : Nat} {ng l0 l : Bool} {e : Int} (h : Cuts n l0 (2 * j) s l) (hR : IsRoot n R) (hr : IsRoot s r) (hs : 108 ≤ bl s) :
    roundS m ng r (decide (r * r ≠ s) || l) (e + j) = roundS m ng R (decide (R * R ≠ n) || l0) e := by
  have := bl_root hr
  exact roundS_shrink (h.root hR hr) (by omega)
/-- r is the cube root of n. -/
def IsCb (n r : Nat) : Prop := r * (r * r) ≤ n ∧ n < (r + 1) * ((r + 1) * (r + 1))
theorem cb_mono {a b : Nat} (h : a ≤ b) : a * (a * a) ≤ b * (b * b) := Nat.mul_le_mul h (Nat.mul_le_mul h h)
theorem cbLt {a b : Nat} (h : a * (a * a) < (b + 1) * ((b + 1) * (b + 1))) : a ≤ b := by
  rcases Nat.lt_or_ge b a with h1 | h1
  · exact absurd (cb_mono (show b + 1 ≤ a from h1)) (by omega)
  · exact h1
theorem IsCb.uniq {n r s : Nat} (h1 : IsCb n r) (h2 : IsCb n s) : r = s :=
  Nat.le_antisymm (cbLt (Nat.lt_of_le_of_lt h1.1 h2.2)) (cbLt (Nat.lt_of_le_of_lt h2.1 h1.2))
theorem cb_pow (r j : Nat) : r * 2 ^ j * (r * 2 ^ j * (r * 2 ^ j)) = r * (r * r) * 2 ^ (3 * j) := by
  rw [show 3 * j = j + (j + j) from by omega, Nat.pow_add, Nat.pow_add]; simp only [Nat.mul_assoc, Nat.mul_left_comm, Nat.mul_comm]
theorem Cuts.cb {n s R r j : Nat} {l0 l : Bool} (h : Cuts n l0 (3 * j) s l) (hR : IsCb n R) (hr : IsCb s r) : Cuts R (decide (R * (R * R) ≠ n) || l0) j r (decide (r * (r * r) ≠ s) || l) := by
  obtain ⟨hs, rfl⟩ := h
  have hp := Nat.two_pow_pos j
  have hp2 := Nat.two_pow_pos (3 * j)
  have hdm := Nat.mod_add_div n (2 ^ (3 * j))
  have hml := Nat.mod_lt n hp2
  rw [← hs] at hdm
  have h1 : r * 2 ^ j ≤ R := by
    apply cbLt
    rw [cb_pow]
    have := Nat.mul_le_mul_right (2 ^ (3 * j)) hr.1
    rw [Nat.mul_comm s] at this
    exact Nat.lt_of_le_of_lt (by omega) hR.2
  have h2 : R < (r + 1) * 2 ^ j := by
    rcases Nat.lt_or_ge R ((r + 1) * 2 ^ j) with h3 | h3
    · exact h3
    · have h4 := cb_mono h3
      rw [cb_pow] at h4
      have h5 := Nat.mul_le_mul_right (2 ^ (3 * j)) (show s + 1 ≤ (r + 1) * ((r + 1) * (r + 1)) from hr.2)
      rw [Nat.add_mul, Nat.one_mul, Nat.mul_comm s] at h5
      have := hR.1
      omega
  have hq : R / 2 ^ j = r := by
    apply Nat.le_antisymm
    · exact Nat.le_of_lt_succ ((Nat.div_lt_iff_lt_mul hp).2 h2)
    · exact (Nat.le_div_iff_mul_le hp).2 h1
  refine ⟨hq.symm, ?_⟩
  rw [← Bool.or_assoc, ← Bool.or_assoc]
  congr 1
  have hRd := Nat.mod_add_div R (2 ^ j)
  rw [hq] at hRd
  rw [Bool.eq_iff_iff, Bool.or_eq_true, Bool.or_eq_true, decide_eq_true_eq, decide_eq_true_eq, decide_eq_true_eq, decide_eq_true_eq]
  constructor
  · intro h
    by_cases h3 : R % 2 ^ j = 0
    · refine .inr fun h4 => ?_
      have e : R = r * 2 ^ j := by rw [Nat.mul_comm]; omega
      rw [e, cb_pow] at h4
      have e2 : n % 2 ^ (3 * j) = 0 := by rw [← h4]; exact Nat.mul_mod_left _ _
      have e3 : s = r * (r * r) := by rw [hs, ← h4, Nat.mul_div_cancel _ hp2]
      rcases h with h | h
      · exact h e3.symm
      · exact h e2
    · exact .inl h3
  · intro h
    by_cases h3 : r * (r * r) = s
    · refine .inr fun h4 => ?_
      rw [h4, Nat.zero_add, ← h3] at hdm
      have hn : IsCb n (r * 2 ^ j) := by
        refine ⟨by rw [cb_pow, Nat.mul_comm]; omega, ?_⟩
        have h6 : r * 2 ^ j * (r * 2 ^ j) < (r * 2 ^ j + 1) * (r * 2 ^ j + 1) := Nat.mul_lt_mul_of_lt_of_lt (by omega) (by omega)
        have := Nat.mul_lt_mul_of_lt_of_lt (show r * 2 ^ j < r * 2 ^ j + 1 by omega) h6
        rw [cb_pow, Nat.mul_comm (r * (r * r))] at this
        omega
      have e := hR.uniq hn
      rcases h with h | h
      · exact h (by rw [e]; exact Nat.mul_mod_left _ _)
      · exact h (by rw [e, cb_pow, Nat.mul_comm]; omega)
    · exact .inl h3
theorem bl_cb {n r : Nat} (h : IsCb n r) : bl n ≤ 3 * bl r := by
  rw [bl_le, show 3 * bl r = bl r + (bl r + bl r) from by omega, Nat.pow_add, Nat.pow_add]
  exact Nat.lt_of_lt_of_le h.2 (cb_mono (show r + 1 ≤ _ from lt_two_bl r))
theorem cb_same {m n s R r j : Nat} {ng l0 l : Bool} {e : Int} (h : Cuts n l0 (3 * j) s l) (hR : IsCb n R) (hr : IsCb s r) (hs : 160 ≤ bl s) :
    roundS m ng r (decide (r * (r * r) ≠ s) || l) (e + j) = roundS m ng R (decide (R * (R * R) ≠ n) || l0) e := by
  have := bl_cb hr
  exact roundS_shrink (h.cb hR hr) (by omega)
end Go.Proofs.YtldmbneckcjonabDoor
namespace Go.Proofs.YtldmbneckcjonabDoor
theorem val_shift {n k : Nat} {e : Int} (he : -5000 ≤ e - k) : val (n * 2 ^ k) (e - k) = val n e := by
  unfold val; rw [Nat.mul_assoc, ← Nat.pow_add]; congr 2; omega
theorem val_eq_zero {n : Nat} {e : Int} : val n e = 0 ↔ n = 0 := by
  unfold val; have := Nat.two_pow_pos (e + 5000).toNat
  rw [Nat.mul_eq_zero]; omega
/-- What the exact sum is, of two numbers' absolute values; its sign, if it is not 0. -/
def sumV (n1 n2 : Bool) (a b : Nat) : Bool × Nat := if n1 = n2 then (n1, a + b) else if a < b then (n2, b - a) else (n1, a - b)
/-- A sum's bits and flags. -/
@[irreducible] def addedV (m : Nat) (n1 n2 : Bool) (a b : Nat) : Nat × Nat :=
  if (sumV n1 n2 a b).2 ≠ 0 then roundS m (sumV n1 n2 a b).1 (sumV n1 n2 a b).2 false (-5000)
  else if a = 0 ∧ b = 0 ∧ n1 = n2 then (signN n1, 0) else (signN (decide (m = 4)), 0)
/-- plus, the last step: A the one with the higher place. -/
def plusH (n1 n2 : Bool) (A B : Nat) (E : Int) (l : Bool) : Bool × Int × Nat × Bool :=
  if n1 = n2 then (n1, E, A + B, l) else if A < B then (n2, E, B - A, false) else if l then (n1, E, A - B - 1, true) else (n1, E, A - B, false)
def plusB (b : Nat) (e2 E : Int) : Nat := if 0 < E - e2 then b / 2 ^ (E - e2).toNat else b * 2 ^ (e2 - E).toNat
def plusL (b : Nat) (e2 E : Int) : Bool := if 0 < E - e2 then decide (b % 2 ^ (E - e2).toNat ≠ 0) else false
/-- plus: a the one whose highest place is the higher one. -/
def plusG (n1 n2 : Bool) (a b : Nat) (e1 e2 : Int) : Bool × Int × Nat × Bool :=
  plusH n1 n2 (a * 2 ^ (250 - bl a)) (plusB b e2 (e1 - (250 - bl a : Nat))) (e1 - (250 - bl a : Nat)) (plusL b e2 (e1 - (250 - bl a : Nat)))
/-- What is said of a sum: it is the exact one, cut. -/
def SumOk (p : Bool × Nat) (r : Bool × Int × Nat × Bool) : Prop := Cuts p.2 false (r.2.1 + 5000).toNat r.2.2.1 r.2.2.2 ∧ (r.2.2.2 = true → 200 ≤ bl r.2.2.1) ∧ -4300 ≤ r.2.1 ∧ (p.2 ≠ 0 → r.1 = p.1)
theorem cuts_exact (s J : Nat) : Cuts (s * 2 ^ J) false J s false := Cuts.scaled s J
theorem div_mid {A J t : Nat} (ht : t < 2 ^ J) : (A * 2 ^ J + t) / 2 ^ J = A ∧ (A * 2 ^ J + t) % 2 ^ J = t := by
  constructor
  · rw [Nat.mul_comm, Nat.mul_add_div (Nat.two_pow_pos J), Nat.div_eq_of_lt ht]; rfl
  · rw [Nat.mul_comm, Nat.mul_add_mod, Nat.mod_eq_of_lt ht]
theorem plusG_ok {n1 n2 : Bool} {a b : Nat} {e1 e2 : Int} (ha : a ≠ 0) (la : bl a ≤ 200) (lb : bl b ≤ 200) (h1 : -4000 ≤ e1) (h2 : -4000 ≤ e2) :
    SumOk (sumV n1 n2 (val a e1) (val b e2)) (plusG n1 n2 a b e1 e2) := by
  have hbA : bl (a * 2 ^ (250 - bl a)) = 250 := by rw [bl_shift ha]; omega
  have hA : 2 ^ 249 ≤ a * 2 ^ (250 - bl a) := lt_bl.1 (by omega)
  have hb := lt_two_bl b
  have hb2 : b < 2 ^ 200 := Nat.lt_of_lt_of_le hb (Nat.pow_le_pow_right (by decide) lb)
  have hVa : val a e1 = a * 2 ^ (250 - bl a) * 2 ^ (e1 - (250 - bl a : Nat) + 5000).toNat := by
    unfold val; rw [Nat.mul_assoc, ← Nat.pow_add]; congr 2; omega
  have hE : -4300 ≤ e1 - (250 - bl a : Nat) := by omega
  unfold plusG
  unfold plusB plusL
  generalize hA2 : a * 2 ^ (250 - bl a) = A at *
  generalize hE2 : e1 - ((250 - bl a : Nat) : Int) = E at *
  have p200 : (2 : Nat) ^ 249 = 2 ^ 200 * 2 ^ 49 := by decide
  have p49 : 2 < (2 : Nat) ^ 49 := by decide
  have hbig : ∀ s : Nat, A ≤ s + 2 ^ 200 → 200 ≤ bl s := fun s hs => by
    have h0 : 0 < 2 ^ 200 := Nat.two_pow_pos 200
    generalize hP : (2 : Nat) ^ 200 = P at *
    have h3 : P ≤ s := by
      generalize (2 : Nat) ^ 49 = Q at *
      have h4 : P * 3 ≤ P * Q := Nat.mul_le_mul_left P (by omega)
      omega
    have h5 : (2 : Nat) ^ 199 ≤ 2 ^ 200 := Nat.pow_le_pow_right (by decide) (by omega)
    have : 199 < bl s := lt_bl.2 (Nat.le_trans h5 (by rw [hP]; exact h3))
    omega
  obtain ⟨J, hJ⟩ : ∃ J : Nat, (E + 5000).toNat = J := ⟨_, rfl⟩
  rw [hJ] at hVa
  have hpJ := Nat.two_pow_pos J
  by_cases hd : 0 < E - e2
  · rw [if_pos hd, if_pos hd]
    obtain ⟨d, hd2⟩ : ∃ d : Nat, (E - e2).toNat = d := ⟨_, rfl⟩
    obtain ⟨i, hi⟩ : ∃ i : Nat, (e2 + 5000).toNat = i := ⟨_, rfl⟩
    have hJi : J = d + i := by omega
    rw [hd2]
    have hBle : b / 2 ^ d ≤ b := Nat.div_le_self _ _
    have hAB : b / 2 ^ d + 1 < A := by
      have h0 : 0 < 2 ^ 200 := Nat.two_pow_pos 200
      generalize (2 : Nat) ^ 200 = P at *
      generalize (2 : Nat) ^ 49 = Q at *
      have h4 : P * 3 ≤ P * Q := Nat.mul_le_mul_left P (by omega)
      omega
    have hbd := Nat.mod_add_div b (2 ^ d)
    have hr := Nat.mod_lt b (Nat.two_pow_pos d)
    have hVb : val b e2 = b / 2 ^ d * 2 ^ J + b % 2 ^ d * 2 ^ i := by
      unfold val; rw [hi, hJi, Nat.pow_add, ← Nat.mul_assoc, ← Nat.add_mul]; congr 1; rw [Nat.mul_comm (b / 2 ^ d)]; omega
    have ht : b % 2 ^ d * 2 ^ i < 2 ^ J := by rw [hJi, Nat.pow_add]; exact Nat.mul_lt_mul_of_pos_right hr (Nat.two_pow_pos i)
    have hz : b % 2 ^ d * 2 ^ i = 0 ↔ b % 2 ^ d = 0 := by rw [Nat.mul_eq_zero]; have := Nat.two_pow_pos i; omega
    have hdz : decide (b % 2 ^ d ≠ 0) = decide (b % 2 ^ d * 2 ^ i ≠ 0) := by
      rw [Bool.eq_iff_iff, decide_eq_true_eq, decide_eq_true_eq]; exact (not_congr hz).symm
    rw [hVa, hVb, hdz]
    generalize b % 2 ^ d * 2 ^ i = t at *
    generalize b / 2 ^ d = B at *
    clear hz hdz hr hbd
    unfold sumV plusH
    by_cases hn : n1 = n2
    · simp only [if_pos hn]
      have hdm := div_mid (A := A + B) (J := J) ht
      rw [Nat.add_mul] at hdm
      refine ⟨⟨?_, ?_⟩, fun _ => hbig (A + B) (show A ≤ A + B + 2 ^ 200 by omega), hE, fun _ => rfl⟩
      · show A + B = _; rw [hJ, ← Nat.add_assoc]; exact hdm.1.symm
      · show _ = (decide (_ % 2 ^ (E + 5000).toNat ≠ 0) || false); rw [hJ, ← Nat.add_assoc, hdm.2, Bool.or_false]
    · have hlt : ¬ A * 2 ^ J < B * 2 ^ J + t := by
        have := Nat.mul_le_mul_right (2 ^ J) (show B + 1 ≤ A by omega)
        rw [Nat.add_mul] at this; omega
      simp only [if_neg hn, if_neg hlt, if_neg (show ¬ A < B by omega)]
      by_cases h0 : t = 0
      · subst h0
        simp only [ne_eq, not_true_eq_false, decide_false, Bool.false_eq_true, if_false]
        refine ⟨?_, fun h => absurd h (by simp), hE, fun _ => rfl⟩
        show Cuts (A * 2 ^ J - (B * 2 ^ J + 0)) false (E + 5000).toNat (A - B) false
        rw [hJ, Nat.add_zero, ← Nat.sub_mul]; exact cuts_exact _ _
      · simp only [ne_eq, h0, not_false_eq_true, decide_true, if_true]
        have hdm := div_mid (A := A - B - 1) (J := J) (t := 2 ^ J - t) (by omega)
        have e : A * 2 ^ J - (B * 2 ^ J + t) = (A - B - 1) * 2 ^ J + (2 ^ J - t) := by
          have h1 : A * 2 ^ J = (A - B - 1) * 2 ^ J + B * 2 ^ J + 2 ^ J := by
            rw [← Nat.add_mul, ← Nat.succ_mul]; congr 1; omega
          omega
        refine ⟨⟨?_, ?_⟩, fun _ => hbig (A - B - 1) (show A ≤ A - B - 1 + 2 ^ 200 by omega), hE, fun _ => rfl⟩
        · show A - B - 1 = _; rw [hJ]; show _ = (A * 2 ^ J - (B * 2 ^ J + t)) / 2 ^ J; rw [e]; exact hdm.1.symm
        · show true = (decide ((A * 2 ^ J - (B * 2 ^ J + t)) % 2 ^ (E + 5000).toNat ≠ 0) || false)
          rw [hJ, e, hdm.2, Bool.or_false, eq_comm, decide_eq_true_eq]; omega
  · rw [if_neg hd, if_neg hd]
    obtain ⟨d, hd2⟩ : ∃ d : Nat, (e2 - E).toNat = d := ⟨_, rfl⟩
    have hVb : val b e2 = b * 2 ^ d * 2 ^ J := by
      unfold val; rw [Nat.mul_assoc, ← Nat.pow_add]; congr 2; omega
    rw [hVa, hVb, hd2]
    generalize b * 2 ^ d = B at *
    unfold sumV plusH
    by_cases hn : n1 = n2
    · simp only [if_pos hn]
      refine ⟨?_, fun h => absurd h (by simp), hE, fun _ => rfl⟩
      show Cuts (A * 2 ^ J + B * 2 ^ J) false (E + 5000).toNat (A + B) false
      rw [hJ, ← Nat.add_mul]; exact cuts_exact _ _
    · by_cases hlt : A < B
      · have hlt2 : A * 2 ^ J < B * 2 ^ J := Nat.mul_lt_mul_of_pos_right hlt hpJ
        simp only [if_neg hn, if_pos hlt, if_pos hlt2]
        refine ⟨?_, fun h => absurd h (by simp), hE, fun _ => rfl⟩
        show Cuts (B * 2 ^ J - A * 2 ^ J) false (E + 5000).toNat (B - A) false
        rw [hJ, ← Nat.sub_mul]; exact cuts_exact _ _
      · have hlt2 : ¬ A * 2 ^ J < B * 2 ^ J := by
          have := Nat.mul_le_mul_right (2 ^ J) (show B ≤ A by omega); omega
        simp only [if_neg hn, if_neg hlt, if_neg hlt2, Bool.false_eq_true, if_false]
        refine ⟨?_, fun h => absurd h (by simp), hE, fun _ => rfl⟩
        show Cuts (A * 2 ^ J - B * 2 ^ J) false (E + 5000).toNat (A - B) false
        rw [hJ, ← Nat.sub_mul]; exact cuts_exact _ _
/-- plus, whole. -/
def plusP (n1 n2 : Bool) (a b : Nat) (e1 e2 : Int) : Bool × Int × Nat × Bool :=
  if a = 0 then (n2, e2, b, false) else if b = 0 then (n1, e1, a, false) else if e1 + bl a < e2 + bl b then plusG n2 n1 b a e2 e1 else plusG n1 n2 a b e1 e2
theorem sumV_comm {n1 n2 : Bool} {a b : Nat} : (sumV n1 n2 a b).2 = (sumV n2 n1 b a).2 ∧ ((sumV n1 n2 a b).2 ≠ 0 → (sumV n1 n2 a b).1 = (sumV n2 n1 b a).1) := by
  unfold sumV
  by_cases hn : n1 = n2
  · subst hn; simp only [if_true]; exact ⟨Nat.add_comm _ _, fun _ => trivial⟩
  · have hn2 : ¬ n2 = n1 := fun h => hn h.symm
    simp only [if_neg hn, if_neg hn2]
    rcases Nat.lt_trichotomy a b with h | h | h
    · simp only [if_pos h, if_neg (show ¬ b < a by omega)]; exact ⟨trivial, fun _ => trivial⟩
    · subst h; simp only [if_neg (Nat.lt_irrefl _), Nat.sub_self]; exact ⟨trivial, fun h2 => absurd rfl h2⟩
    · simp only [if_pos h, if_neg (show ¬ a < b by omega)]; exact ⟨trivial, fun _ => trivial⟩
theorem plusP_ok {n1 n2 : Bool} {a b : Nat} {e1 e2 : Int} (la : bl a ≤ 200) (lb : bl b ≤ 200) (h1 : -4000 ≤ e1) (h2 : -4000 ≤ e2) :
    SumOk (sumV n1 n2 (val a e1) (val b e2)) (plusP n1 n2 a b e1 e2) := by
  unfold plusP
  by_cases ha : a = 0
  · rw [if_pos ha]
    have hz : val a e1 = 0 := val_eq_zero.2 ha
    rw [hz]
    refine ⟨?_, fun h => absurd h (by simp), by show -4300 ≤ e2; omega, ?_⟩
    · have e : (sumV n1 n2 0 (val b e2)).2 = val b e2 := by unfold sumV; split; exact Nat.zero_add _; split; exact Nat.sub_zero _; show 0 - _ = _; omega
      rw [e]; exact cuts_exact _ _
    · intro h
      unfold sumV at h ⊢
      split
      · rename_i hn; exact hn.symm
      · rename_i hn; rw [if_neg hn] at h; split
        · rfl
        · rename_i h3; rw [if_neg h3] at h; exact absurd (show 0 - _ = 0 by omega) h
  · rw [if_neg ha]
    by_cases hb : b = 0
    · rw [if_pos hb]
      have hz : val b e2 = 0 := val_eq_zero.2 hb
      rw [hz]
      refine ⟨?_, fun h => absurd h (by simp), by show -4300 ≤ e1; omega, ?_⟩
      · have e : (sumV n1 n2 (val a e1) 0).2 = val a e1 := by unfold sumV; split; rfl; rw [if_neg (by omega)]; exact Nat.sub_zero _
        rw [e]; exact cuts_exact _ _
      · intro _
        unfold sumV
        split
        · rfl
        · rw [if_neg (by omega)]
    · rw [if_neg hb]
      split
      · obtain ⟨g1, g2, g3, g4⟩ := plusG_ok (n1 := n2) (n2 := n1) hb lb la h2 h1
        have hc := sumV_comm (n1 := n1) (n2 := n2) (a := val a e1) (b := val b e2)
        unfold SumOk
        rw [hc.1]
        exact ⟨g1, g2, g3, fun h => by rw [g4 h, hc.2 (by rw [hc.1]; exact h)]⟩
      · exact plusG_ok ha la lb h1 h2
/-- What is rounded of it. -/
theorem SumOk.round {m : Nat} {p : Bool × Nat} {r : Bool × Int × Nat × Bool} (h : SumOk p r) (h0 : p.2 ≠ 0) : roundS m r.1 r.2.2.1 r.2.2.2 r.2.1 = roundS m p.1 p.2 false (-5000) := by
  obtain ⟨h1, h2, h3, h4⟩ := h
  rw [h4 h0]
  cases hl : r.2.2.2 with
  | false =>
    rw [hl] at h1
    obtain ⟨e, _⟩ := h1.exact_of
    have hs : r.2.2.1 ≠ 0 := fun h => h0 (by rw [e, h, Nat.zero_mul])
    rw [e, roundS_scale hs]; congr 1; omega
  | true =>
    rw [hl] at h1
    exact roundS_of (by omega) h1 (by have := h2 hl; omega)
theorem SumOk.zero {p : Bool × Nat} {r : Bool × Int × Nat × Bool} (h : SumOk p r) : (r.2.2.1 ≠ 0 ∨ r.2.2.2 = true) ↔ p.2 ≠ 0 := by
  obtain ⟨⟨h1, h2⟩, _⟩ := h
  rw [h1, h2, Bool.or_false, decide_eq_true_eq]
  have hd := Nat.mod_add_div p.2 (2 ^ (r.2.1 + 5000).toNat)
  constructor
  · intro h hz; rw [hz, Nat.zero_div, Nat.zero_mod] at h; omega
  · intro h
    by_cases hq : p.2 / 2 ^ (r.2.1 + 5000).toNat = 0
    · right; rw [hq, Nat.mul_zero] at hd; omega
    · exact .inl hq
end Go.Proofs.YtldmbneckcjonabDoor
namespace Go.Proofs.YtldmbneckcjonabDoor
theorem exN_sub {x : Nat} (h : expF x = 0) : exN x = sigF x ∧ exE x = -1074 := by unfold exN exE; rw [if_pos h, if_pos h]; exact ⟨rfl, rfl⟩
theorem exN_nor {x : Nat} (h : expF x ≠ 0) : exN x = sigF x + 4503599627370496 ∧ exE x = (expF x : Int) - 1075 := by unfold exN exE; rw [if_neg h, if_neg h]; exact ⟨rfl, rfl⟩
theorem expF_lt (x : Nat) : expF x < 2048 := by unfold expF; omega
/-- The program's number is the exact one, its highest place at 53. -/
theorem norm_rel (x : Nat) : ∃ j : Nat, j ≤ 53 ∧ sigU x = exN x * 2 ^ j ∧ expU x = exE x - j ∧ (exN x ≠ 0 → bl (sigU x) = 53) := by
  have hb := bl_sigF x
  have hs := sigF_lt x
  by_cases h : expF x = 0
  · obtain ⟨e1, e2⟩ := exN_sub h
    refine ⟨53 - bl (sigF x), by omega, ?_, ?_, fun h0 => ?_⟩
    · unfold sigU; rw [if_pos h, e1]
    · unfold expU; rw [if_pos h, e2]; omega
    · unfold sigU; rw [if_pos h]; rw [e1] at h0; rw [bl_shift h0]; omega
  · obtain ⟨e1, e2⟩ := exN_nor h
    refine ⟨0, by omega, ?_, ?_, fun _ => ?_⟩
    · unfold sigU; rw [if_neg h, e1]; simp
    · unfold expU; rw [if_neg h, e2]; simp
    · unfold sigU; rw [if_neg h]; exact bl_eq (k := 52) (by omega) (by omega)
theorem exN_bl (x : Nat) : bl (exN x) ≤ 53 := bl_le.2 (exN_lt x)
theorem exE_bounds (x : Nat) : -1074 ≤ exE x ∧ exE x ≤ 973 := by
  have := expF_lt x
  by_cases h : expF x = 0
  · rw [(exN_sub h).2]; omega
  · rw [(exN_nor h).2]; omega
theorem expU_bounds (x : Nat) : -1127 ≤ expU x ∧ expU x ≤ 973 := by
  obtain ⟨j, hj, _, h, _⟩ := norm_rel x; have := exE_bounds x; omega
theorem sigU_zero {x : Nat} : sigU x = 0 ↔ exN x = 0 := by
  obtain ⟨j, _, h, _⟩ := norm_rel x; have := Nat.two_pow_pos j; rw [h, Nat.mul_eq_zero]; omega
theorem kind_zero {x : Nat} : kindN x = 0 ↔ exN x = 0 := by
  have hs := sigF_lt x
  have e1 : x / 4503599627370496 % 2048 = expF x := rfl
  have e2 : x % 4503599627370496 = sigF x := rfl
  unfold kindN
  rw [e1, e2]
  by_cases h : expF x = 0
  · rw [if_pos h, (exN_sub h).1]; split <;> omega
  · rw [if_neg h, (exN_nor h).1]; (repeat' split) <;> omega
theorem mul_same {m a b : Nat} {g : Bool} (ha : exN a ≠ 0) (hb : exN b ≠ 0) : roundS m g (sigU a * sigU b) false (expU a + expU b) = roundS m g (exN a * exN b) false (exE a + exE b) := by
  obtain ⟨j, _, h1, h2, _⟩ := norm_rel a
  obtain ⟨i, _, h3, h4, _⟩ := norm_rel b
  have e : sigU a * sigU b = exN a * exN b * 2 ^ (j + i) := by rw [h1, h3, Nat.pow_add]; simp only [Nat.mul_assoc, Nat.mul_left_comm, Nat.mul_comm]
  rw [e, roundS_scale (by rw [Ne, Nat.mul_eq_zero]; omega)]; congr 1; omega
theorem div_same {m a b : Nat} {g : Bool} (ha : exN a ≠ 0) (hb : exN b ≠ 0) :
    roundS m g (sigU a * 2 ^ 150 / sigU b) (decide (sigU a * 2 ^ 150 % sigU b ≠ 0)) (expU a - 150 - expU b) =
    roundS m g (mk2 (exN a * 2 ^ 120 / exN b) (decide (exN a * 2 ^ 120 % exN b = 0))) false (exE a - 120 - exE b - 1) := by
  obtain ⟨j, _, h1, h2, h5⟩ := norm_rel a
  obtain ⟨i, _, h3, h4, h6⟩ := norm_rel b
  have h5 := h5 ha
  have h6 := h6 hb
  rw [h1] at h5 ⊢
  rw [h3] at h6 ⊢
  rw [h2, h4]
  exact quot_same ha (by omega) (exN_bl b) h5 h6
theorem val_norm (x : Nat) : val (sigU x) (expU x) = val (exN x) (exE x) := by
  obtain ⟨j, hj, h1, h2, _⟩ := norm_rel x
  have := exE_bounds x
  rw [h1, h2]; exact val_shift (by omega)
theorem val_mul {a b : Nat} : val (sigU a * sigU b) (expU a + expU b) = val (exN a * exN b) (exE a + exE b) := by
  obtain ⟨j, _, h1, h2, _⟩ := norm_rel a
  obtain ⟨i, _, h3, h4, _⟩ := norm_rel b
  have := exE_bounds a
  have := exE_bounds b
  have e : sigU a * sigU b = exN a * exN b * 2 ^ (j + i) := by rw [h1, h3, Nat.pow_add]; simp only [Nat.mul_assoc, Nat.mul_left_comm, Nat.mul_comm]
  rw [e, show expU a + expU b = exE a + exE b - ((j + i : Nat) : Int) from by omega]; exact val_shift (by omega)
/-- Roots: of an exact number. -/
theorem rooted_exact {m s k r R : Nat} {e h : Int} (hk : 2 * h = e - k) (hJ : (k : Int) ≤ e + 5000) (hb : 108 ≤ bl (s * 2 ^ k)) (hr : IsRoot (s * 2 ^ k) r) (hR : IsRoot (val s e) R) :
    roundS m false r (decide (r * r ≠ s * 2 ^ k)) h = roundS m false R (decide (R * R ≠ val s e)) (-2500) := by
  obtain ⟨j, hj⟩ : ∃ j : Nat, (e + 5000 - k).toNat = 2 * j := ⟨(e + 5000 - k).toNat / 2, by omega⟩
  have hV : val s e = s * 2 ^ k * 2 ^ (2 * j) := by unfold val; rw [Nat.mul_assoc, ← Nat.pow_add]; congr 2; omega
  have hc : Cuts (val s e) false (2 * j) (s * 2 ^ k) false := by rw [hV]; exact Cuts.scaled _ _
  have := root_same (m := m) (ng := false) (e := -2500) hc hR hr hb
  rw [Bool.or_false, Bool.or_false] at this
  rw [← this]; congr 1; omega
theorem root_exists (n : Nat) : ∃ r, IsRoot n r := by
  induction n with
  | zero => exact ⟨0, Nat.le_refl _, by decide⟩
  | succ n ih =>
    obtain ⟨r, h1, h2⟩ := ih
    by_cases h : (r + 1) * (r + 1) ≤ n + 1
    · refine ⟨r + 1, h, ?_⟩
      have := Nat.mul_lt_mul_of_lt_of_lt (show r + 1 < r + 1 + 1 by omega) (show r + 1 < r + 1 + 1 by omega)
      omega
    · exact ⟨r, by omega, by omega⟩
/-- Roots: of a number with a mark. -/
theorem rooted_left {m V s k r R : Nat} {l0 l : Bool} {e h : Int} (hc : Cuts V l0 (e + 5000).toNat s l) (he : -4500 ≤ e) (hs : s ≠ 0) (hl : l = true → 120 ≤ bl s) (hk : 2 * h = e - k) (hk2 : 108 ≤ bl s + k) (hk3 : k ≤ 254) (hr : IsRoot (s * 2 ^ k) r) (hR : IsRoot V R) :
    roundS m false r (decide (r * r ≠ s * 2 ^ k) || l) h = roundS m false R (decide (R * R ≠ V) || l0) (-2500) := by
  cases l with
  | false =>
    obtain ⟨e1, e2⟩ := hc.exact_of
    subst e2
    have hv : val s e = V := e1.symm
    rw [← hv] at hR ⊢
    rw [Bool.or_false, Bool.or_false]
    exact rooted_exact hk (by omega) (by rw [bl_shift hs]; exact hk2) hr hR
  | true =>
    have hbs := hl rfl
    obtain ⟨c, i, hci, hi⟩ : ∃ c i, k + i = 2 * c ∧ i < 2 := ⟨(k + 1) / 2, 2 * ((k + 1) / 2) - k, by omega, by omega⟩
    obtain ⟨j, hj⟩ : ∃ j : Nat, (e + 5000).toNat + i = 2 * j := ⟨((e + 5000).toNat + i) / 2, by omega⟩
    have c1 : Cuts s true i (s / 2 ^ i) true := ⟨rfl, by rw [Bool.or_true]⟩
    have c2 := hc.trans c1
    rw [hj] at c2
    have c3 : Cuts (s * 2 ^ k) true (2 * c) (s / 2 ^ i) true := by
      refine ⟨?_, by rw [Bool.or_true]⟩
      rw [← hci, Nat.pow_add, Nat.mul_comm (2 ^ k), Nat.mul_div_mul_right _ _ (Nat.two_pow_pos k)]
    have hb2 : 108 ≤ bl (s / 2 ^ i) := by
      have h1 : 2 ^ (119 - i) ≤ s / 2 ^ i := by
        rw [Nat.le_div_iff_mul_le (Nat.two_pow_pos i), ← Nat.pow_add]
        exact Nat.le_trans (Nat.pow_le_pow_right (by decide) (by omega)) (two_bl_le hs)
      have := lt_bl.2 h1
      omega
    obtain ⟨q, hq⟩ := root_exists (s / 2 ^ i)
    have f1 := root_same (m := m) (ng := false) (e := h) c3 hr hq hb2
    have f2 := root_same (m := m) (ng := false) (e := -2500) c2 hR hq hb2
    rw [← f1, ← f2]; congr 1; omega
/-- The reference's way. -/
theorem marked_root {m n X k : Nat} {ex : Bool} {e : Int} (hX : IsRoot n X) (hb : 108 ≤ bl n) : roundS m false (mk2 X (ex && decide (X * X = n))) false (e - 1) = roundS m false X (decide (X * X ≠ n) || !ex) e := by
  have := bl_root hX
  rw [roundS_mark (by omega)]
  congr 1
  rw [Bool.not_and, Bool.or_comm, decide_not]
theorem sqrt_same {m a r X k k2 : Nat} {h h2 : Int} (ha : exN a ≠ 0) (hk : 2 * h = expU a - k) (hk1 : 100 ≤ k) (hk3 : k ≤ 254) (hr : IsRoot (sigU a * 2 ^ k) r) (hk2 : 2 * h2 = exE a - k2) (hk4 : 108 ≤ k2) (hk5 : k2 ≤ 254) (hX : IsRoot (exN a * 2 ^ k2) X) :
    roundS m false r (decide (r * r ≠ sigU a * 2 ^ k)) h = roundS m false (mk2 X (true && decide (X * X = exN a * 2 ^ k2))) false (h2 - 1) := by
  obtain ⟨j, _, h1, h3, h5⟩ := norm_rel a
  have hb := exE_bounds a
  obtain ⟨R, hR⟩ := root_exists (val (exN a) (exE a))
  have hs := h5 ha
  have hn := bl_shift (k := k2) ha
  have hn0 := bl_pos.2 ha
  rw [marked_root (k := k2) hX (by omega), Bool.not_true, Bool.or_false, rooted_exact hk2 (by omega) (by omega) hX hR]
  have hv := val_norm a
  rw [← hv] at hR ⊢
  exact rooted_exact hk (by omega) (by rw [bl_shift (by rw [Ne, sigU_zero]; exact ha)]; omega) hr hR
/-- rsqrt. -/
theorem rsqrt_same {m a r X k k2 : Nat} {h h2 : Int} (ha : exN a ≠ 0) (hk : 2 * h = -252 - expU a - k) (hk2' : k ≤ 254) (hr : IsRoot (2 ^ 252 / sigU a * 2 ^ k) r)
    (hk2 : 2 * h2 = -k2 - exE a) (hk4 : 240 + bl (exN a) ≤ k2) (hk5 : k2 ≤ 300) (hX : IsRoot (2 ^ k2 / exN a) X) :
    roundS m false r (decide (r * r ≠ 2 ^ 252 / sigU a * 2 ^ k) || decide (2 ^ 252 % sigU a ≠ 0)) h = roundS m false (mk2 X (decide (2 ^ k2 % exN a = 0) && decide (X * X = 2 ^ k2 / exN a))) false (h2 - 1) := by
  obtain ⟨j, hj, h1, h3, h5⟩ := norm_rel a
  have hb := exE_bounds a
  have hs := h5 ha
  have hpj := Nat.two_pow_pos j
  have hap : 0 < exN a := by omega
  have hsp : 0 < sigU a := by have := mt sigU_zero.1 ha; omega
  obtain ⟨P, hP⟩ : ∃ P : Nat, (5000 - exE a).toNat = P := ⟨_, rfl⟩
  obtain ⟨R, hR⟩ := root_exists (2 ^ P / exN a)
  -- the reference's
  obtain ⟨i, hi⟩ : ∃ i : Nat, P = k2 + 2 * i := ⟨(P - k2) / 2, by omega⟩
  have f1 := Cuts.frac (X := 1) (Y := exN a) hap k2 (2 * i)
  rw [Nat.one_mul, Nat.one_mul, ← hi] at f1
  have g1 := bl_frac (X := 1) (Y := exN a) (p := k2) (by decide) hap
  have b1 : bl 1 = 1 := bl_eq (k := 0) (by decide) (by decide)
  rw [Nat.one_mul, b1] at g1
  have r1 := root_same (m := m) (ng := false) (e := -2500) f1 hR hX (by omega)
  rw [marked_root (k := k2) hX (by omega)]
  have hnot : (!decide (2 ^ k2 % exN a = 0)) = decide (2 ^ k2 % exN a ≠ 0) := by rw [decide_not]
  rw [hnot, show h2 = -2500 + (i : Int) from by omega, r1]
  -- the program's
  have f2 := Cuts.frac (X := 1) (Y := sigU a) hsp 252 (-252 - expU a + 5000).toNat
  have e1 : 252 + (-252 - expU a + 5000).toNat = P + j := by omega
  rw [Nat.one_mul, Nat.one_mul, e1] at f2
  have e2 : 2 ^ (P + j) / sigU a = 2 ^ P / exN a := by rw [h1, Nat.pow_add, Nat.mul_div_mul_right _ _ hpj]
  have e3 : decide (2 ^ (P + j) % sigU a ≠ 0) = decide (2 ^ P % exN a ≠ 0) := by
    rw [h1, Nat.pow_add, Nat.mul_mod_mul_right, Bool.eq_iff_iff, decide_eq_true_eq, decide_eq_true_eq]
    constructor
    · intro h h2; rw [h2, Nat.zero_mul] at h; exact h rfl
    · intro h h2; rcases Nat.mul_eq_zero.1 h2 with h4 | h4
      · exact h h4
      · omega
  rw [e2, e3] at f2
  have g2 := bl_frac (X := 1) (Y := sigU a) (p := 252) (by decide) hsp
  rw [Nat.one_mul, b1] at g2
  have hxb := expU_bounds a
  exact rooted_left f2 (by omega) (bl_pos.1 (by omega)) (fun _ => by omega) hk (by omega) hk2' hr hR
/-- hypot. -/
theorem SumOk.rooted {m V n k r X k2 : Nat} {p : Bool × Nat} {q : Bool × Int × Nat × Bool} {e h h2 : Int} (hq : SumOk p q) (hV : val n e = p.2) (hn : n ≠ 0) (he1 : -4000 ≤ e) (he : -4300 ≤ q.2.1) (hk : 2 * h = q.2.1 - k) (hk1 : 108 ≤ bl q.2.2.1 + k) (hk3 : k ≤ 254) (hr : IsRoot (q.2.2.1 * 2 ^ k) r) (hk2 : 2 * h2 = e - k2) (hk4 : 108 ≤ k2) (hk5 : k2 ≤ 254) (hX : IsRoot (n * 2 ^ k2) X) :
    roundS m false r (decide (r * r ≠ q.2.2.1 * 2 ^ k) || q.2.2.2) h = roundS m false (mk2 X (true && decide (X * X = n * 2 ^ k2))) false (h2 - 1) := by
  obtain ⟨R, hR⟩ := root_exists (val n e)
  have hbn := bl_shift (k := k2) hn
  have hn0 := bl_pos.2 hn
  rw [marked_root (k := k2) hX (by omega), Bool.not_true, Bool.or_false, rooted_exact hk2 (by omega) (by omega) hX hR]
  obtain ⟨h1, h3, h4, _⟩ := hq
  rw [← hV] at h1
  have hs : q.2.2.1 ≠ 0 := fun hz => by
    cases hl : q.2.2.2 with
    | false =>
      rw [hl] at h1
      have := h1.exact_of.1
      rw [hz, Nat.zero_mul, val_eq_zero] at this; exact hn this
    | true => have := h3 hl; rw [hz, bl_zero] at this; omega
  have := rooted_left (m := m) h1 (by omega) hs (fun hl => by have := h3 hl; omega) hk hk1 hk3 hr hR
  rw [Bool.or_false] at this
  exact this
/-- cbrt. -/
theorem cbrt_same {m a r X k k2 : Nat} {g : Bool} {h h2 : Int} (ha : exN a ≠ 0) (hk : 3 * h = expU a - k) (hk1 : 128 ≤ k) (hr : IsCb (sigU a * 2 ^ k) r) (hk2 : 3 * h2 = exE a - k2) (hk4 : 190 ≤ k2) (hX : IsCb (exN a * 2 ^ k2) X) :
    roundS m g r (decide (r * (r * r) ≠ sigU a * 2 ^ k)) h = roundS m g (mk2 X (decide (X * (X * X) = exN a * 2 ^ k2))) false (h2 - 1) := by
  obtain ⟨j, _, h1, h3, h5⟩ := norm_rel a
  have hs := h5 ha
  have hn := bl_shift (k := k2) ha
  have hn0 := bl_pos.2 ha
  have hbX := bl_cb hX
  have hss := bl_shift (n := sigU a) (k := k) (by rw [Ne, sigU_zero]; exact ha)
  rw [roundS_mark (by omega)]
  have hnot : (!decide (X * (X * X) = exN a * 2 ^ k2)) = decide (X * (X * X) ≠ exN a * 2 ^ k2) := by rw [decide_not]
  rw [hnot]
  have e : sigU a * 2 ^ k = exN a * 2 ^ (j + k) := by rw [h1, Nat.pow_add, Nat.mul_assoc]
  rw [e] at hr hss ⊢
  rcases Nat.le_total (j + k) k2 with hc | hc
  · obtain ⟨i, hi⟩ : ∃ i, k2 = j + k + 3 * i := ⟨(k2 - (j + k)) / 3, by omega⟩
    have c : Cuts (exN a * 2 ^ k2) false (3 * i) (exN a * 2 ^ (j + k)) false := by rw [hi, Nat.pow_add, ← Nat.mul_assoc]; exact Cuts.scaled _ _
    have := cb_same (m := m) (ng := g) (e := h2) c hX hr (by omega)
    rw [Bool.or_false, Bool.or_false] at this
    rw [← this]; congr 1; omega
  · obtain ⟨i, hi⟩ : ∃ i, j + k = k2 + 3 * i := ⟨(j + k - k2) / 3, by omega⟩
    have c : Cuts (exN a * 2 ^ (j + k)) false (3 * i) (exN a * 2 ^ k2) false := by rw [hi, Nat.pow_add, ← Nat.mul_assoc]; exact Cuts.scaled _ _
    have := cb_same (m := m) (ng := g) (e := h) c hr hX (by omega)
    rw [Bool.or_false, Bool.or_false] at this
    rw [← this]; congr 1; omega
end Go.Proofs.YtldmbneckcjonabDoor
namespace Go.Proofs.YtldmbneckcjonabDoor
open Go.RowKit
theorem two_run_d (d : Nat) (x0 x1 y0 y1 : Int) (w : World) :
    (Op.equalIn (d + 2) 53 (.agg #[.int .i64 x0, .int .i64 x1]) (.agg #[.int .i64 y0, .int .i64 y1])).run Tryd.prog w =
      .ok (x0 == y0 && x1 == y1) w := by
  have hu := Tryd.underlying53
  have hs : (sizeOf 50).run Tryd.prog w = .ok 1 w := by kernel_rfl
  have h64 : ∀ (a b : Int), (Op.equalIn (d + 1) 50 (.int .i64 a) (.int .i64 b)).run Tryd.prog w = .ok (a == b) w := fun a b => run_equalIn_int w d 50 .i64 .i64 a b Tryd.underlying50
  have p0 : ∀ a b : Int, (part 50 #[.int .i64 a, .int .i64 b] 0).run Tryd.prog w = .ok (.int .i64 a) w := fun _ _ => by kernel_rfl
  have p1 : ∀ a b : Int, (part 50 #[.int .i64 a, .int .i64 b] 1).run Tryd.prog w = .ok (.int .i64 b) w := fun _ _ => by kernel_rfl
  rw [Op.equalIn]
  simp only [Sem.run_bind, run_underlying hu, Result.andThen_ok, hs]
  by_cases h0 : x0 = y0 <;> by_cases h1 : x1 = y1 <;>
    simp [h64, p0, p1, Std.Legacy.Range.forIn_eq_forIn_range', Std.Legacy.Range.size, List.range', h0, h1]
theorem two_run (x0 x1 y0 y1 : Int) (w : World) :
    (Op.equalIn 10000 53 (.agg #[.int .i64 x0, .int .i64 x1]) (.agg #[.int .i64 y0, .int .i64 y1])).run Tryd.prog w =
      .ok (x0 == y0 && x1 == y1) w := two_run_d 9998 x0 x1 y0 y1 w
/-- A NaN made quiet. -/
@[irreducible] def quietN (x : Nat) : Nat := x ||| 2251799813685248
theorem quiet_or {x : Nat} (h : U64 x) : bits .or .u64 (x : Int) 2251799813685248 = (quietN x : Nat) := by
  have := u64_or_nat x 2251799813685248 h (by omega)
  unfold quietN
  exact this
end Go.Proofs.YtldmbneckcjonabDoor
namespace Go.Proofs.YtldmbneckcjonabDoor
theorem bits_and_u64 (a b : Int) : bits .and .u64 a b = IntKind.u64.wrap ((BitVec.ofInt 64 a &&& BitVec.ofInt 64 b).toNat : Int) := rfl
theorem bits_xor_u64 (a b : Int) : bits .xor .u64 a b = IntKind.u64.wrap ((BitVec.ofInt 64 a ^^^ BitVec.ofInt 64 b).toNat : Int) := rfl
theorem ofInt_nat (x : Nat) (hx : U64 x) : (BitVec.ofInt 64 (x : Int)).toNat = x := by
  rw [BitVec.ofInt_natCast, BitVec.toNat_ofNat]; exact Nat.mod_eq_of_lt hx
theorem u64_and_nat (x y : Nat) (hx : U64 x) (hy : U64 y) : bits .and .u64 (x : Int) (y : Int) = ((x &&& y : Nat) : Int) := by
  have h : x &&& y < 2 ^ 64 := Nat.and_lt_two_pow x hy
  rw [bits_and_u64, BitVec.toNat_and, ofInt_nat x hx, ofInt_nat y hy, IntKind.wrap_u64]; omega
theorem u64_xor_nat (x y : Nat) (hx : U64 x) (hy : U64 y) : bits .xor .u64 (x : Int) (y : Int) = ((x ^^^ y : Nat) : Int) := by
  have h : x ^^^ y < 2 ^ 64 := Nat.xor_lt_two_pow hx hy
  rw [bits_xor_u64, BitVec.toNat_xor, ofInt_nat x hx, ofInt_nat y hy, IntKind.wrap_u64]; omega
theorem u64_top : U64 9223372036854775808 := by unfold U64; decide
theorem neg_testBit {x : Nat} (hx : U64 x) : x.testBit 63 = negU x := by
  have h := hx.out
  unfold negU
  rw [Nat.testBit_eq_decide_div_mod_eq]
  rw [Bool.eq_iff_iff, decide_eq_true_eq, decide_eq_true_eq]
  rw [show (2 : Nat) ^ 63 = 9223372036854775808 from by decide]
  omega
theorem and_top (n : Nat) : n &&& 2 ^ 63 = if n.testBit 63 then 2 ^ 63 else 0 := by
  apply Nat.eq_of_testBit_eq
  intro j
  rw [Nat.testBit_and, Nat.testBit_two_pow]
  by_cases h : 63 = j
  · subst h; cases hb : n.testBit 63
    · rw [if_neg (by decide), Nat.zero_testBit]; rfl
    · rw [if_pos rfl, Nat.testBit_two_pow]; rfl
  · rw [decide_eq_false h, Bool.and_false]
    split
    · rw [Nat.testBit_two_pow, decide_eq_false h]
    · rw [Nat.zero_testBit]
theorem xor_sign {x y : Nat} (hx : U64 x) (hy : U64 y) : bits .and .u64 (bits .xor .u64 (x : Int) (y : Int)) 9223372036854775808 = (signN (negU x != negU y) : Nat) := by
  have hxy : U64 (x ^^^ y) := Nat.xor_lt_two_pow (n := 64) hx hy
  have := u64_and_nat (x ^^^ y) 9223372036854775808 hxy u64_top
  rw [u64_xor_nat x y hx hy]
  rw [show ((9223372036854775808 : Nat) : Int) = 9223372036854775808 from rfl] at this
  rw [this, show (9223372036854775808 : Nat) = 2 ^ 63 from by decide, and_top, Nat.testBit_xor, neg_testBit hx, neg_testBit hy]
  cases negU x <;> cases negU y <;> rfl
/-- The number of the other sign. -/
def turnN (x : Nat) : Nat := x ^^^ 9223372036854775808
theorem turn_xor {x : Nat} (hx : U64 x) : bits .xor .u64 (x : Int) 9223372036854775808 = (turnN x : Nat) := u64_xor_nat x _ hx u64_top
theorem turn_u {x : Nat} (hx : U64 x) : U64 (turnN x) := Nat.xor_lt_two_pow (n := 64) hx u64_top
/-- The operations. -/
@[irreducible] def mulS (m a b : Nat) : Nat × Nat :=
  if (kindN a = 3 ∧ kindN b = 0) ∨ (kindN a = 0 ∧ kindN b = 3) then (9221120237041090560, 16)
  else if kindN a = 3 ∨ kindN b = 3 then (signN (negU a != negU b) + 9218868437227405312, 0)
  else if kindN a = 0 ∨ kindN b = 0 then (signN (negU a != negU b), 0)
  else roundS m (negU a != negU b) (exN a * exN b) false (exE a + exE b)
@[irreducible] def divS (m a b : Nat) : Nat × Nat :=
  if (kindN a = 3 ∧ kindN b = 3) ∨ (kindN a = 0 ∧ kindN b = 0) then (9221120237041090560, 16)
  else if kindN a = 3 then (signN (negU a != negU b) + 9218868437227405312, 0)
  else if kindN b = 3 ∨ kindN a = 0 then (signN (negU a != negU b), 0)
  else if kindN b = 0 then (signN (negU a != negU b) + 9218868437227405312, 8)
  else roundS m (negU a != negU b) (mk2 (exN a * 2 ^ 120 / exN b) (decide (exN a * 2 ^ 120 % exN b = 0))) false (exE a - 120 - exE b - 1)
@[irreducible] def addS (m a b : Nat) : Nat × Nat :=
  if kindN a = 3 ∧ kindN b = 3 ∧ a ≠ b then (9221120237041090560, 16)
  else if kindN a = 3 then (a, 0)
  else if kindN b = 3 then (b, 0)
  else addedV m (negU a) (negU b) (val (exN a) (exE a)) (val (exN b) (exE b))
@[irreducible] def fmaS (m a b c : Nat) : Nat × Nat :=
  if (kindN a = 3 ∧ kindN b = 0) ∨ (kindN a = 0 ∧ kindN b = 3) then (9221120237041090560, 16)
  else if kindN a = 3 ∨ kindN b = 3 then addS m (signN (negU a != negU b) + 9218868437227405312) c
  else if kindN c = 3 then (c, 0)
  else addedV m (negU a != negU b) (negU c) (val (exN a * exN b) (exE a + exE b)) (val (exN c) (exE c))
end Go.Proofs.YtldmbneckcjonabDoor
