/- Several texts in one: softfloatlaw.whole: the bits of a whole number of at most 53 digits. · Plain: whole numbers: what the operations give of them. No program in sight; each lemma states its own conditions. · Plain: the numbers of softfloatlaw.known: how large they are, and what masks make of them. No program in sight. -/
import Derived.Test.YtldmbneckcjonabDoorGY
import Derived.Test.YtldmbneckcjonabDoorGW
import Derived.Test.YtldmbneckcjonabDoorGL
set_option linter.unusedVariables false
set_option linter.unusedSimpArgs false
namespace Go.Proofs.YtldmbneckcjonabDoor
open Go.RowKit
/-- The bits of a whole number above 0. -/
def wholeN (N : Nat) : Nat := (bl N + 1022) * 4503599627370496 + (N * 2 ^ (53 - bl N) - 4503599627370496)
def wholeB (n : Int) : Nat := if n = 0 then 0 else signN (decide (n < 0)) + wholeN n.natAbs
theorem top_digit {N : Nat} (h0 : N ≠ 0) (h : bl N ≤ 53) : 4503599627370496 ≤ N * 2 ^ (53 - bl N) ∧ N * 2 ^ (53 - bl N) < 9007199254740992 := by
  have h1 : bl (N * 2 ^ (53 - bl N)) = 53 := by rw [bl_shift h0]; omega
  have hn : N * 2 ^ (53 - bl N) ≠ 0 := by have := Nat.mul_pos (Nat.pos_of_ne_zero h0) (Nat.two_pow_pos (53 - bl N)); omega
  have h2 := two_bl_le hn
  have h3 := lt_two_bl (N * 2 ^ (53 - bl N))
  rw [h1] at h2 h3
  exact ⟨h2, h3⟩
theorem not_top {N t : Nat} (h0 : N ≠ 0) (h : t < 53 - bl N) : N * 2 ^ t < 4503599627370496 := by
  have h1 : bl (N * 2 ^ t) = bl N + t := bl_shift h0
  have h2 : N * 2 ^ t < 2 ^ 52 := bl_le.1 (by omega)
  exact h2
set_option maxRecDepth 100000 in
set_option maxHeartbeats 400000 in
theorem whole_zero (w : World) : Calls Tryd.prog 13 #[.int .i64 0] w fun e w' => e = .returned (.int .u64 0) ∧ w = w' := by
  go_enter Tryd.func13, Tryd.ntmps13
  go_wp2_with fail
  go_ret
  exact ⟨rfl, rfl⟩
set_option maxRecDepth 100000 in
set_option maxHeartbeats 1000000 in
theorem whole_pos (N : Nat) (h0 : N ≠ 0) (hb : bl N ≤ 53) (w : World) : Calls Tryd.prog 13 #[.int .i64 N] w fun e w' => e = .returned (.int .u64 (wholeN N)) ∧ w = w' := by
  have hz : ((N : Int) == 0) = false := by rw [beq_eq_false_iff_ne]; omega
  have hlt : decide ((N : Int) < 0) = false := decide_eq_false (by omega)
  have hw := hlt
  obtain ⟨q1, q2⟩ := top_digit h0 hb
  go_enter Tryd.func13, Tryd.ntmps13
  go_wp2_with fail
  clear hz hlt
  replace hw := Lib.hid hw
  go_loop [0, 4] (fun n e => ∃ t : Nat, n = .int .i64 ((N * 2 ^ t : Nat) : Int) ∧ e = .int .i64 (1075 - (t : Int)) ∧ t ≤ 53 - bl N) (fun _ e => (53 - bl N) - (1075 - intOf e).toNat)
  case atStart => exact ⟨0, by (rw [Nat.pow_zero, Nat.mul_one]; try rw [hw.out]), rfl, Nat.zero_le _⟩
  case round =>
    obtain ⟨t, rfl, rfl, ht⟩ := hrel
    by_cases hlt : t < 53 - bl N
    · have hn := not_top h0 hlt
      have hs : N * 2 ^ t * 2 = N * 2 ^ (t + 1) := by rw [Nat.mul_assoc, ← Nat.pow_succ]
      have rel : ∃ t' : Nat, Value.int .i64 ((N * 2 ^ (t + 1) : Nat) : Int) = .int .i64 ((N * 2 ^ t' : Nat) : Int) ∧ Value.int .i64 (1075 - (t : Int) - 1) = .int .i64 (1075 - (t' : Int)) ∧ t' ≤ 53 - bl N := ⟨t + 1, rfl, by congr 1; omega, hlt⟩
      generalize N * 2 ^ (t + 1) = V2 at *
      generalize N * 2 ^ t = V at *
      replace rel := Lib.hid rel
      have c1 : decide ((V : Int) < 4503599627370496) = true := decide_eq_true (by omega)
      have c2 : wrap64 ((V : Int) * 2) = V2 := by unfold wrap64; omega
      have c3 : wrap64 (1075 - (t : Int) - 1) = 1075 - (t : Int) - 1 := by unfold wrap64; omega
      clear hn hs q1 q2
      go_wp2_with fail
      go_round
      case rel => (try rw [c2]); exact rel.out
      case measure => simp [intOf]; omega
    · obtain rfl : t = 53 - bl N := by omega
      generalize hV : N * 2 ^ (53 - bl N) = V at *
      have c1 : decide ((V : Int) < 4503599627370496) = false := decide_eq_false (by omega)
      obtain ⟨E, hE⟩ : ∃ E : Nat, 1075 - ((53 - bl N : Nat) : Int) = E ∧ E = bl N + 1022 ∧ E < 1076 := ⟨bl N + 1022, by omega, rfl, by omega⟩
      obtain ⟨e1, e2, e3⟩ := hE
      rw [e1]
      replace hV := Lib.hid hV
      replace e2 := Lib.hid e2
      have d1 : wrap64 ((V : Int) - 4503599627370496) = (V : Int) - 4503599627370496 := by unfold wrap64; omega
      have d2 : IntKind.u64.wrap (E : Int) = E := by rw [IntKind.wrap_u64]; omega
      have d3 : IntKind.u64.wrap ((V : Int) - 4503599627370496) = (V : Int) - 4503599627370496 := by rw [IntKind.wrap_u64]; omega
      have d4 : IntKind.u64.wrap ((E : Int) * 4503599627370496) = (E : Int) * 4503599627370496 := by rw [IntKind.wrap_u64]; omega
      clear e1 hlt ht hb h0
      go_wp2_with fail
      go_ret
      refine ⟨ret_int ?_, rfl⟩
      have e2 := e2.out
      unfold wholeN
      rw [hV.out, ← e2]
      first | omega | (simp only [IntKind.wrap_u64]; omega) | (simp; done) | (simp; omega) | (simp [IntKind.wrap_u64]; omega)
set_option maxRecDepth 100000 in
set_option maxHeartbeats 1000000 in
theorem whole_neg (N : Nat) (h0 : N ≠ 0) (hb : bl N ≤ 53) (w : World) : Calls Tryd.prog 13 #[.int .i64 (-(N : Int))] w fun e w' => e = .returned (.int .u64 (9223372036854775808 + wholeN N : Nat)) ∧ w = w' := by
  have hn53 : N < 9007199254740992 := bl_le.1 hb
  have hz : ((-(N : Int)) == 0) = false := by rw [beq_eq_false_iff_ne]; omega
  have hlt : decide (-(N : Int) < 0) = true := decide_eq_true (by omega)
  have hw : wrap64 (-(-(N : Int))) = (N : Int) := by unfold wrap64; omega
  clear hn53
  generalize -(N : Int) = nn at *
  obtain ⟨q1, q2⟩ := top_digit h0 hb
  go_enter Tryd.func13, Tryd.ntmps13
  go_wp2_with fail
  clear hz hlt
  replace hw := Lib.hid hw
  go_loop [0, 4] (fun n e => ∃ t : Nat, n = .int .i64 ((N * 2 ^ t : Nat) : Int) ∧ e = .int .i64 (1075 - (t : Int)) ∧ t ≤ 53 - bl N) (fun _ e => (53 - bl N) - (1075 - intOf e).toNat)
  case atStart => exact ⟨0, by (rw [Nat.pow_zero, Nat.mul_one]; try rw [hw.out]), rfl, Nat.zero_le _⟩
  case round =>
    obtain ⟨t, rfl, rfl, ht⟩ := hrel
    by_cases hlt : t < 53 - bl N
    · have hn := not_top h0 hlt
      have hs : N * 2 ^ t * 2 = N * 2 ^ (t + 1) := by rw [Nat.mul_assoc, ← Nat.pow_succ]
      have rel : ∃ t' : Nat, Value.int .i64 ((N * 2 ^ (t + 1) : Nat) : Int) = .int .i64 ((N * 2 ^ t' : Nat) : Int) ∧ Value.int .i64 (1075 - (t : Int) - 1) = .int .i64 (1075 - (t' : Int)) ∧ t' ≤ 53 - bl N := ⟨t + 1, rfl, by congr 1; omega, hlt⟩
      generalize N * 2 ^ (t + 1) = V2 at *
      generalize N * 2 ^ t = V at *
      replace rel := Lib.hid rel
      have c1 : decide ((V : Int) < 4503599627370496) = true := decide_eq_true (by omega)
      have c2 : wrap64 ((V : Int) * 2) = V2 := by unfold wrap64; omega
      have c3 : wrap64 (1075 - (t : Int) - 1) = 1075 - (t : Int) - 1 := by unfold wrap64; omega
      clear hn hs q1 q2
      go_wp2_with fail
      go_round
      case rel => (try rw [c2]); exact rel.out
      case measure => simp [intOf]; omega
    · obtain rfl : t = 53 - bl N := by omega
      generalize hV : N * 2 ^ (53 - bl N) = V at *
      have c1 : decide ((V : Int) < 4503599627370496) = false := decide_eq_false (by omega)
      obtain ⟨E, hE⟩ : ∃ E : Nat, 1075 - ((53 - bl N : Nat) : Int) = E ∧ E = bl N + 1022 ∧ E < 1076 := ⟨bl N + 1022, by omega, rfl, by omega⟩
      obtain ⟨e1, e2, e3⟩ := hE
      rw [e1]
      replace hV := Lib.hid hV
      replace e2 := Lib.hid e2
      have d1 : wrap64 ((V : Int) - 4503599627370496) = (V : Int) - 4503599627370496 := by unfold wrap64; omega
      have d2 : IntKind.u64.wrap (E : Int) = E := by rw [IntKind.wrap_u64]; omega
      have d3 : IntKind.u64.wrap ((V : Int) - 4503599627370496) = (V : Int) - 4503599627370496 := by rw [IntKind.wrap_u64]; omega
      have d4 : IntKind.u64.wrap ((E : Int) * 4503599627370496) = (E : Int) * 4503599627370496 := by rw [IntKind.wrap_u64]; omega
      clear e1 hlt ht hb h0
      go_wp2_with fail
      go_ret
      refine ⟨ret_int ?_, rfl⟩
      have e2 := e2.out
      unfold wholeN
      rw [hV.out, ← e2]
      first | omega | (simp only [IntKind.wrap_u64]; omega) | (simp; done) | (simp; omega) | (simp [IntKind.wrap_u64]; omega)
theorem whole_any (n : Int) (hb : bl n.natAbs ≤ 53) (w : World) : Calls Tryd.prog 13 #[.int .i64 n] w fun e w' => e = .returned (.int .u64 (wholeB n)) ∧ w = w' := by
  by_cases h0 : n = 0
  · subst h0; exact whole_zero w
  · by_cases hn : n < 0
    · have e : n = -((n.natAbs : Nat) : Int) := by omega
      have h := whole_neg n.natAbs (by omega) hb w
      rw [← e] at h
      have e2 : wholeB n = 9223372036854775808 + wholeN n.natAbs := by unfold wholeB; rw [if_neg h0, decide_eq_true hn]; rfl
      rw [e2]; exact h
    · have e : n = ((n.natAbs : Nat) : Int) := by omega
      have h := whole_pos n.natAbs (by omega) hb w
      rw [← e] at h
      have e2 : wholeB n = wholeN n.natAbs := by unfold wholeB; rw [if_neg h0, decide_eq_false hn]; exact Nat.zero_add _
      rw [e2]; exact h
end Go.Proofs.YtldmbneckcjonabDoor
namespace Go.Proofs.YtldmbneckcjonabDoor
open Go.RowKit
@[irreducible] def q25 : Nat := 2500
theorem q25_eq : q25 = 2500 := by unfold q25; rfl
theorem round_one {m N : Nat} {g : Bool} (h0 : N ≠ 0) (hb : bl N ≤ 53) : roundS m g N false 0 = (signN g + wholeN N, 0) := by
  obtain ⟨q1, q2⟩ := top_digit h0 hb
  have hp := bl_pos.2 h0
  have hV : bl (N * 2 ^ (53 - bl N)) = 53 := by rw [bl_shift h0]; omega
  have hc : cutS m g N false ((bl N : Int) - 53) = N * 2 ^ (53 - bl N) := by
    rw [cutS_neg (by omega), show (-((bl N : Int) - 53)).toNat = 53 - bl N from by omega]
  have hl : lostS N false ((bl N : Int) - 53) = false := lostS_neg (by omega)
  have ht : topS m g N false 0 = (bl N : Int) - 1 := by unfold topS; rw [hc, hV]; omega
  unfold roundS wholeN
  rw [ht, hc, hl, hV, if_neg (by omega), if_neg (by omega), if_neg (by decide), if_neg (by decide), show ((bl N : Int) - 1 + 1023).toNat = bl N + 1022 from by omega, Nat.add_assoc]
theorem round_whole {m N j : Nat} {g : Bool} {e : Int} (h0 : N ≠ 0) (hb : bl N ≤ 53) (he : e = -(j : Int)) : roundS m g (N * 2 ^ j) false e = (signN g + wholeN N, 0) := by
  rw [roundS_scale h0, show e + (j : Int) = 0 from by omega]
  exact round_one h0 hb
theorem wholeB_ne {n : Int} (h : n ≠ 0) : wholeB n = signN (decide (n < 0)) + wholeN n.natAbs := by unfold wholeB; rw [if_neg h]
theorem round_int {m j : Nat} {n : Int} {g : Bool} {e : Int} (h0 : n ≠ 0) (hb : bl n.natAbs ≤ 53) (hg : g = decide (n < 0)) (he : e = -(j : Int)) : roundS m g (n.natAbs * 2 ^ j) false e = (wholeB n, 0) := by
  rw [round_whole (by omega) hb he, wholeB_ne h0, hg]
theorem wholeN_parts {N : Nat} (h0 : N ≠ 0) (hb : bl N ≤ 53) (g : Bool) : U64 (signN g + wholeN N) ∧ negU (signN g + wholeN N) = g ∧ kindN (signN g + wholeN N) = 2 ∧ exN (signN g + wholeN N) = N * 2 ^ (53 - bl N) ∧ exE (signN g + wholeN N) = -((53 - bl N : Nat) : Int) := by
  obtain ⟨q1, q2⟩ := top_digit h0 hb
  have hp := bl_pos.2 h0
  unfold wholeN
  generalize N * 2 ^ (53 - bl N) = V at *
  have hs : signN g = 0 ∧ g = false ∨ signN g = 9223372036854775808 ∧ g = true := by cases g; exact .inl ⟨rfl, rfl⟩; exact .inr ⟨rfl, rfl⟩
  have he : expF (signN g + ((bl N + 1022) * 4503599627370496 + (V - 4503599627370496))) = bl N + 1022 := by unfold expF; rcases hs with ⟨h, _⟩ | ⟨h, _⟩ <;> rw [h] <;> omega
  have hf : sigF (signN g + ((bl N + 1022) * 4503599627370496 + (V - 4503599627370496))) = V - 4503599627370496 := by unfold sigF; rcases hs with ⟨h, _⟩ | ⟨h, _⟩ <;> rw [h] <;> omega
  refine ⟨?_, ?_, ?_, ?_, ?_⟩
  · unfold U64; rcases hs with ⟨h, _⟩ | ⟨h, _⟩ <;> rw [h] <;> omega
  · unfold negU
    rcases hs with ⟨h, hg⟩ | ⟨h, hg⟩
    · rw [h, hg]; exact decide_eq_false (by omega)
    · rw [h, hg]; exact decide_eq_true (by omega)
  · unfold expF at he
    unfold kindN
    rw [he, if_neg (by omega), if_pos (by omega)]
  · unfold exN; rw [he, hf, if_neg (by omega)]; omega
  · unfold exE; rw [he, if_neg (by omega)]; omega
/-- What is used of a whole number's bits. -/
theorem whole_parts {n : Int} (h0 : n ≠ 0) (hb : bl n.natAbs ≤ 53) : U64 (wholeB n) ∧ negU (wholeB n) = decide (n < 0) ∧ kindN (wholeB n) = 2 ∧ exN (wholeB n) = n.natAbs * 2 ^ (53 - bl n.natAbs) ∧ exE (wholeB n) = -((53 - bl n.natAbs : Nat) : Int) := by
  rw [wholeB_ne h0]; exact wholeN_parts (by omega) hb _
theorem val_whole {N i : Nat} (hi : i ≤ 5000) : val (N * 2 ^ i) (-(i : Int)) = N * 2 ^ (q25 + q25) := by
  unfold val
  rw [Nat.mul_assoc, ← Nat.pow_add, show i + (-(i : Int) + 5000).toNat = q25 + q25 from by have := q25_eq; omega]
theorem zero_parts : U64 0 ∧ negU 0 = false ∧ kindN 0 = 0 ∧ exN 0 = 0 := by
  refine ⟨by unfold U64; decide, by decide, by decide, ?_⟩
  unfold exN; decide
theorem whole_val (n : Int) (hb : bl n.natAbs ≤ 53) : U64 (wholeB n) ∧ negU (wholeB n) = decide (n < 0) ∧ kindN (wholeB n) < 3 ∧ val (exN (wholeB n)) (exE (wholeB n)) = n.natAbs * 2 ^ (q25 + q25) := by
  by_cases h0 : n = 0
  · subst h0
    have e : wholeB 0 = 0 := by unfold wholeB; rw [if_pos rfl]
    obtain ⟨z1, z2, z3, z4⟩ := zero_parts
    rw [e, z2, z3, z4]
    exact ⟨z1, rfl, by decide, by unfold val; rw [Nat.zero_mul, Int.natAbs_zero, Nat.zero_mul]⟩
  · obtain ⟨h1, h2, h3, h4, h5⟩ := whole_parts h0 hb
    refine ⟨h1, h2, by rw [h3]; decide, ?_⟩
    rw [h4, h5]; exact val_whole (by omega)
def sgI (g : Bool) (A : Nat) : Int := if g then -(A : Int) else A
theorem sgI_abs (n : Int) : sgI (decide (n < 0)) n.natAbs = n := by
  unfold sgI
  by_cases h : n < 0
  · rw [decide_eq_true h, if_pos rfl]; omega
  · rw [decide_eq_false h, if_neg (by decide)]; omega
theorem sgI_not (n : Int) : sgI (!decide (n < 0)) n.natAbs = -n := by
  unfold sgI
  by_cases h : n < 0
  · rw [decide_eq_true h, Bool.not_true, if_neg (by decide)]; omega
  · rw [decide_eq_false h, Bool.not_false, if_pos rfl]; omega
theorem sumV_sg {n1 n2 : Bool} {A B P : Nat} (hP : 0 < P) : (sumV n1 n2 (A * P) (B * P)).2 = (sgI n1 A + sgI n2 B).natAbs * P ∧ (sgI n1 A + sgI n2 B ≠ 0 → (sumV n1 n2 (A * P) (B * P)).1 = decide (sgI n1 A + sgI n2 B < 0)) := by
  have hlt : (A * P < B * P) ↔ A < B := Nat.mul_lt_mul_right hP
  unfold sumV sgI
  by_cases hs : n1 = n2
  · subst hs
    rw [if_pos rfl, ← Nat.add_mul]
    cases n1
    · refine ⟨by show (A + B) * P = _; first | (congr 1; (first | omega | (simp; done) | (simp; omega))) | (congr 1; done), fun h => ?_⟩
      show false = _; rw [decide_eq_false (by simp; omega)]
    · refine ⟨by show (A + B) * P = _; first | (congr 1; (first | omega | (simp; done) | (simp; omega))) | (congr 1; done), fun h => ?_⟩
      show true = _; rw [decide_eq_true (by simp at h ⊢; omega)]
  · rw [if_neg hs]
    by_cases h : A < B
    · rw [if_pos (hlt.2 h), ← Nat.sub_mul]
      cases n1 <;> cases n2 <;> first | exact absurd rfl hs | skip
      · refine ⟨by show (B - A) * P = _; first | (congr 1; (first | omega | (simp; done) | (simp; omega))) | (congr 1; done), fun _ => ?_⟩
        show true = _; rw [decide_eq_true (by simp; omega)]
      · refine ⟨by show (B - A) * P = _; first | (congr 1; (first | omega | (simp; done) | (simp; omega))) | (congr 1; done), fun _ => ?_⟩
        show false = _; rw [decide_eq_false (by simp; omega)]
    · rw [if_neg (mt hlt.1 h), ← Nat.sub_mul]
      cases n1 <;> cases n2 <;> first | exact absurd rfl hs | skip
      · refine ⟨by show (A - B) * P = _; first | (congr 1; (first | omega | (simp; done) | (simp; omega))) | (congr 1; done), fun hn => ?_⟩
        show false = _; rw [decide_eq_false (by simp at hn ⊢; omega)]
      · refine ⟨by show (A - B) * P = _; first | (congr 1; (first | omega | (simp; done) | (simp; omega))) | (congr 1; done), fun hn => ?_⟩
        show true = _; rw [decide_eq_true (by simp at hn ⊢; omega)]
theorem added_whole {m A B : Nat} {n1 n2 : Bool} {S : Int} (hS : sgI n1 A + sgI n2 B = S) (h0 : S ≠ 0) (hb : bl S.natAbs ≤ 53) : addedV m n1 n2 (A * 2 ^ (q25 + q25)) (B * 2 ^ (q25 + q25)) = (wholeB S, 0) := by
  obtain ⟨s1, s2⟩ := sumV_sg (n1 := n1) (n2 := n2) (A := A) (B := B) (Nat.two_pow_pos (q25 + q25))
  rw [hS] at s1 s2
  have hn : S.natAbs * 2 ^ (q25 + q25) ≠ 0 := by have := Nat.mul_pos (show 0 < S.natAbs by omega) (Nat.two_pow_pos (q25 + q25)); omega
  unfold addedV
  rw [s1, if_pos hn, s2 h0]
  exact round_int h0 hb rfl (by have := q25_eq; omega)
theorem add_whole {m : Nat} {a b : Int} (ha : bl a.natAbs ≤ 53) (hb : bl b.natAbs ≤ 53) (h0 : a + b ≠ 0) (hs : bl (a + b).natAbs ≤ 53) : addS m (wholeB a) (wholeB b) = (wholeB (a + b), 0) := by
  obtain ⟨_, a2, a3, a4⟩ := whole_val a ha
  obtain ⟨_, b2, b3, b4⟩ := whole_val b hb
  unfold addS
  rw [if_neg (by omega), if_neg (by omega), if_neg (by omega), a2, b2, a4, b4]
  exact added_whole (by rw [sgI_abs, sgI_abs]) h0 hs
theorem sub_whole {m : Nat} {a b : Int} (ha : bl a.natAbs ≤ 53) (hb : bl b.natAbs ≤ 53) (h0 : a - b ≠ 0) (hs : bl (a - b).natAbs ≤ 53) (kt : kindN (turnN (wholeB b)) = kindN (wholeB b)) (nt : negU (turnN (wholeB b)) = !negU (wholeB b)) (xt : exN (turnN (wholeB b)) = exN (wholeB b) ∧ exE (turnN (wholeB b)) = exE (wholeB b)) : addS m (wholeB a) (turnN (wholeB b)) = (wholeB (a - b), 0) := by
  obtain ⟨_, a2, a3, a4⟩ := whole_val a ha
  obtain ⟨_, b2, b3, b4⟩ := whole_val b hb
  unfold addS
  rw [kt, nt, xt.1, xt.2, if_neg (by omega), if_neg (by omega), if_neg (by omega), a2, b2, a4, b4]
  exact added_whole (by rw [sgI_abs, sgI_not, Int.sub_eq_add_neg]) h0 hs
theorem sign_mul {a b : Int} (ha : a ≠ 0) (hb : b ≠ 0) : (decide (a < 0) != decide (b < 0)) = decide (a * b < 0) := by
  rcases Int.lt_or_gt_of_ne ha with h1 | h1 <;> rcases Int.lt_or_gt_of_ne hb with h2 | h2
  · rw [decide_eq_true h1, decide_eq_true h2, decide_eq_false (by have := Int.mul_pos_of_neg_of_neg h1 h2; omega)]; rfl
  · rw [decide_eq_true h1, decide_eq_false (by omega), decide_eq_true (Int.mul_neg_of_neg_of_pos h1 h2)]; rfl
  · rw [decide_eq_false (by omega), decide_eq_true h2, decide_eq_true (Int.mul_neg_of_pos_of_neg h1 h2)]; rfl
  · rw [decide_eq_false (by omega), decide_eq_false (by omega), decide_eq_false (by have := Int.mul_pos h1 h2; omega)]; rfl
theorem mul_ne {a b : Int} (ha : a ≠ 0) (hb : b ≠ 0) : a * b ≠ 0 := Int.mul_ne_zero ha hb
theorem mul_whole {m : Nat} {a b : Int} (ha : bl a.natAbs ≤ 53) (hb : bl b.natAbs ≤ 53) (a0 : a ≠ 0) (b0 : b ≠ 0) (hs : bl (a * b).natAbs ≤ 53) : mulS m (wholeB a) (wholeB b) = (wholeB (a * b), 0) := by
  obtain ⟨_, a2, a3, a4, a5⟩ := whole_parts a0 ha
  obtain ⟨_, b2, b3, b4, b5⟩ := whole_parts b0 hb
  unfold mulS
  rw [a3, b3, if_neg (by decide), if_neg (by decide), if_neg (by decide), a2, b2, a4, b4, a5, b5, sign_mul a0 b0]
  have e : a.natAbs * 2 ^ (53 - bl a.natAbs) * (b.natAbs * 2 ^ (53 - bl b.natAbs)) = (a * b).natAbs * 2 ^ ((53 - bl a.natAbs) + (53 - bl b.natAbs)) := by
    rw [Int.natAbs_mul, Nat.pow_add]; simp only [Nat.mul_assoc, Nat.mul_left_comm, Nat.mul_comm]
  rw [e]
  exact round_int (mul_ne a0 b0) hs rfl (by omega)
theorem div_whole {m : Nat} {a b : Int} (ha : bl a.natAbs ≤ 53) (hb : bl b.natAbs ≤ 53) (a0 : a ≠ 0) (b0 : b ≠ 0) (hs : bl (a * b).natAbs ≤ 53) : divS m (wholeB (a * b)) (wholeB b) = (wholeB a, 0) := by
  obtain ⟨_, a2, a3, a4, a5⟩ := whole_parts (mul_ne a0 b0) hs
  obtain ⟨_, b2, b3, b4, b5⟩ := whole_parts b0 hb
  unfold divS
  rw [a3, b3, if_neg (by decide), if_neg (by decide), if_neg (by decide), if_neg (by decide), a2, b2, a4, b4, a5, b5]
  have hg : (decide (a * b < 0) != decide (b < 0)) = decide (a < 0) := by
    rw [← sign_mul a0 b0]; cases decide (a < 0) <;> cases decide (b < 0) <;> rfl
  obtain ⟨i, hi⟩ : ∃ i, i = 53 - bl (a * b).natAbs := ⟨_, rfl⟩
  obtain ⟨j, hj⟩ : ∃ j, j = 53 - bl b.natAbs := ⟨_, rfl⟩
  rw [hg, ← hi, ← hj]
  have hbp : 0 < b.natAbs * 2 ^ j := Nat.mul_pos (by omega) (Nat.two_pow_pos j)
  have e : (a * b).natAbs * 2 ^ i * 2 ^ 120 = a.natAbs * 2 ^ (i + 120 - j) * (b.natAbs * 2 ^ j) := by
    rw [Int.natAbs_mul, Nat.mul_assoc, ← Nat.pow_add, show i + 120 = (i + 120 - j) + j from by omega, Nat.pow_add, Nat.add_sub_cancel]
    simp only [Nat.mul_assoc, Nat.mul_left_comm, Nat.mul_comm]
  rw [e, Nat.mul_div_cancel _ hbp, Nat.mul_mod_left, decide_eq_true rfl]
  have e2 : mk2 (a.natAbs * 2 ^ (i + 120 - j)) true = a.natAbs * 2 ^ (i + 120 - j + 1) := by unfold mk2; rw [if_pos rfl, Nat.pow_succ, Nat.add_zero, Nat.mul_assoc]
  rw [e2]
  exact round_int a0 ha rfl (by omega)
theorem fma_whole {m : Nat} {a b c : Int} (ha : bl a.natAbs ≤ 53) (hb : bl b.natAbs ≤ 53) (hc : bl c.natAbs ≤ 53) (a0 : a ≠ 0) (b0 : b ≠ 0) (h0 : a * b + c ≠ 0) (hs : bl (a * b + c).natAbs ≤ 53) : fmaS m (wholeB a) (wholeB b) (wholeB c) = (wholeB (a * b + c), 0) := by
  obtain ⟨_, a2, a3, a4, a5⟩ := whole_parts a0 ha
  obtain ⟨_, b2, b3, b4, b5⟩ := whole_parts b0 hb
  obtain ⟨_, c2, c3, c4⟩ := whole_val c hc
  unfold fmaS
  rw [a3, b3, if_neg (by decide), if_neg (by decide), if_neg (by omega), a2, b2, c2, c4, a4, b4, a5, b5, sign_mul a0 b0]
  have e : a.natAbs * 2 ^ (53 - bl a.natAbs) * (b.natAbs * 2 ^ (53 - bl b.natAbs)) = (a * b).natAbs * 2 ^ ((53 - bl a.natAbs) + (53 - bl b.natAbs)) := by
    rw [Int.natAbs_mul, Nat.pow_add]; simp only [Nat.mul_assoc, Nat.mul_left_comm, Nat.mul_comm]
  rw [e, show -((53 - bl a.natAbs : Nat) : Int) + -((53 - bl b.natAbs : Nat) : Int) = -(((53 - bl a.natAbs) + (53 - bl b.natAbs) : Nat) : Int) from by omega, val_whole (by omega)]
  exact added_whole (by rw [sgI_abs, sgI_abs]) h0 hs
theorem root_sq {N : Nat} : rootN (N * N * 2 ^ (q25 + q25)) = N * 2 ^ q25 := by
  have e : N * N * 2 ^ (q25 + q25) = (N * 2 ^ q25) * (N * 2 ^ q25) := by
    rw [Nat.pow_add]; simp only [Nat.mul_assoc, Nat.mul_left_comm, Nat.mul_comm]
  refine root_uniq (rootN_is _) ?_
  rw [e]
  refine ⟨Nat.le_refl _, ?_⟩
  rw [Nat.add_mul, Nat.mul_add]; omega
theorem round_root {m N : Nat} (h0 : N ≠ 0) (hb : bl N ≤ 53) : roundS m false (rootN (N * N * 2 ^ (q25 + q25))) (decide (rootN (N * N * 2 ^ (q25 + q25)) * rootN (N * N * 2 ^ (q25 + q25)) ≠ N * N * 2 ^ (q25 + q25))) (-2500) = (wholeB N, 0) := by
  have e : N * N * 2 ^ (q25 + q25) = (N * 2 ^ q25) * (N * 2 ^ q25) := by
    rw [Nat.pow_add]; simp only [Nat.mul_assoc, Nat.mul_left_comm, Nat.mul_comm]
  rw [root_sq, decide_eq_false (fun h => h e.symm)]
  have := round_int (m := m) (j := q25) (n := (N : Int)) (g := false) (e := -2500) (by omega) hb (by rw [decide_eq_false (by omega)]) (by have := q25_eq; omega)
  exact this
theorem sqrt_whole {m : Nat} {a : Int} (a0 : a ≠ 0) (ha : bl a.natAbs ≤ 53) (hs : bl (a * a).natAbs ≤ 53) : sqrtS m (wholeB (a * a)) = (wholeB a.natAbs, 0) := by
  obtain ⟨_, a2, a3, a4, a5⟩ := whole_parts (mul_ne a0 a0) hs
  have hn : ¬ a * a < 0 := by have := sign_mul a0 a0; rw [bne_self_eq_false] at this; exact of_decide_eq_false this.symm
  unfold sqrtS
  rw [a3, a2, decide_eq_false hn, if_neg (by decide), if_neg (by decide), if_neg (by decide)]
  unfold sqrtV
  rw [a4, a5, val_whole (by omega), Int.natAbs_mul]
  exact round_root (by omega) ha
theorem cbrt_whole {m : Nat} {k : Nat} (k0 : k ≠ 0) (hk : bl k ≤ 53) (hs : bl (k * k * k) ≤ 53) : cbrtS m (wholeB ((k * k * k : Nat) : Int)) = (wholeB k, 0) := by
  have hp : 0 < k * k * k := Nat.mul_pos (Nat.mul_pos (by omega) (by omega)) (by omega)
  obtain ⟨_, a2, a3, a4, a5⟩ := whole_parts (n := ((k * k * k : Nat) : Int)) (by omega) hs
  unfold cbrtS
  rw [a3, if_neg (by decide)]
  obtain ⟨c1, c2, c3⟩ := cbK_mod (wholeB ((k * k * k : Nat) : Int))
  unfold cbrtV
  rw [a2, a4, a5] 
  rw [a5] at c1
  generalize cbK (wholeB ((k * k * k : Nat) : Int)) = K at *
  rw [Int.natAbs_natCast] at *
  generalize 53 - bl (k * k * k) = i at *
  obtain ⟨t, ht⟩ : ∃ t : Nat, i + K = 3 * t := ⟨(i + K) / 3, by omega⟩
  have e : k * k * k * 2 ^ i * 2 ^ K = (k * 2 ^ t) * ((k * 2 ^ t) * (k * 2 ^ t)) := by
    rw [Nat.mul_assoc (k * k * k), ← Nat.pow_add, ht, show 3 * t = t + t + t from by omega, Nat.pow_add, Nat.pow_add]; simp only [Nat.mul_assoc, Nat.mul_left_comm, Nat.mul_comm]
  have hc : cbN (k * k * k * 2 ^ i * 2 ^ K) = k * 2 ^ t := by
    refine cb_uniq (cbN_is _) ?_
    rw [e]
    refine ⟨Nat.le_refl _, ?_⟩
    have h1 : k * 2 ^ t < k * 2 ^ t + 1 := by omega
    exact Nat.mul_lt_mul_of_lt_of_lt h1 (Nat.mul_lt_mul_of_lt_of_lt h1 h1)
  rw [hc, decide_eq_true e.symm]
  have e2 : mk2 (k * 2 ^ t) true = k * 2 ^ (t + 1) := by unfold mk2; rw [if_pos rfl, Nat.pow_succ, Nat.add_zero, Nat.mul_assoc]
  rw [e2]
  have := round_int (m := m) (j := t + 1) (n := (k : Int)) (g := decide (((k * k * k : Nat) : Int) < 0)) (e := (-(i : Int) - K) / 3 - 1) (by omega) hk (by rw [decide_eq_false (by omega), decide_eq_false (by omega)]) (by omega)
  exact this
theorem hyp_whole {m t : Nat} (t0 : t ≠ 0) (h3 : bl (3 * t) ≤ 53) (h4 : bl (4 * t) ≤ 53) (h5 : bl (5 * t) ≤ 53) : hypS m (wholeB ((3 * t : Nat) : Int)) (wholeB (-((4 * t : Nat) : Int))) = (wholeB ((5 * t : Nat) : Int), 0) := by
  obtain ⟨_, a2, a3, a4, a5⟩ := whole_parts (n := ((3 * t : Nat) : Int)) (by omega) h3
  obtain ⟨_, b2, b3, b4, b5⟩ := whole_parts (n := -((4 * t : Nat) : Int)) (by omega) (by rw [Int.natAbs_neg]; exact h4)
  rw [Int.natAbs_neg] at b4 b5
  rw [Int.natAbs_natCast] at a4 a5 b4 b5
  unfold hypS
  rw [a3, b3, if_neg (by decide), if_neg (by decide)]
  have hsq : ∀ N i : Nat, i ≤ 53 → val (N * 2 ^ i * (N * 2 ^ i)) (-(i : Int) + -(i : Int)) = N * N * 2 ^ (q25 + q25) := fun N i hi => by
    rw [show N * 2 ^ i * (N * 2 ^ i) = N * N * 2 ^ (i + i) from by rw [Nat.pow_add]; simp only [Nat.mul_assoc, Nat.mul_left_comm, Nat.mul_comm], show -(i : Int) + -(i : Int) = -((i + i : Nat) : Int) from by omega]
    exact val_whole (by omega)
  have hW : hypW (wholeB ((3 * t : Nat) : Int)) (wholeB (-((4 * t : Nat) : Int))) = 5 * t * (5 * t) * 2 ^ (q25 + q25) := by
    unfold hypW
    rw [a4, a5, b4, b5, hsq _ _ (by omega), hsq _ _ (by omega), ← Nat.add_mul]
    congr 1
    rw [Nat.mul_mul_mul_comm 3 t 3 t, Nat.mul_mul_mul_comm 4 t 4 t, Nat.mul_mul_mul_comm 5 t 5 t]
    omega
  unfold hypV
  rw [hW]
  exact round_root (by omega) h5
end Go.Proofs.YtldmbneckcjonabDoor
namespace Go.Proofs.YtldmbneckcjonabDoor
open Go.RowKit
theorem ktn_cases {a : Nat} (ua : U64 a) : (negU a = false ∧ turnN a = a + 9223372036854775808) ∨ (negU a = true ∧ 9223372036854775808 ≤ a ∧ turnN a = a - 9223372036854775808) := by
  have hu := turn_u ua
  have hu0 : a < 18446744073709551616 := ua
  have hu1 : turnN a < 18446744073709551616 := hu
  have hm : a % 9223372036854775808 = turnN a % 9223372036854775808 := by
    unfold turnN
    have h := Nat.xor_mod_two_pow (a := a) (b := 9223372036854775808) (n := 63)
    rw [show (2 : Nat) ^ 63 = 9223372036854775808 from by decide, Nat.mod_self, Nat.xor_zero] at h
    exact h.symm
  have hb : turnN a ≠ a := fun h => by
    have h1 : (turnN a).testBit 63 = !(a.testBit 63) := by
      unfold turnN
      rw [Nat.testBit_xor, show (9223372036854775808 : Nat).testBit 63 = true from by decide]
      cases a.testBit 63 <;> rfl
    rw [h] at h1
    revert h1
    cases a.testBit 63 <;> decide
  unfold negU
  rcases Nat.lt_or_ge a 9223372036854775808 with h | h
  · exact .inl ⟨decide_eq_false (by omega), by omega⟩
  · exact .inr ⟨decide_eq_true (by omega), h, by omega⟩
theorem ktn_neg {a : Nat} (ua : U64 a) : negU (turnN a) = !negU a := by
  have hu : a < 18446744073709551616 := ua
  rcases ktn_cases ua with ⟨h1, h2⟩ | ⟨h1, h2, h3⟩
  · rw [h1]; unfold negU at h1 ⊢; rw [h2]; exact decide_eq_true (by have := of_decide_eq_false h1; omega)
  · rw [h1]; unfold negU at h1 ⊢; rw [h3]; exact decide_eq_false (by omega)
theorem ktn_ex {a : Nat} (ua : U64 a) : exN (turnN a) = exN a ∧ exE (turnN a) = exE a := by
  have hp : expF (turnN a) = expF a ∧ sigF (turnN a) = sigF a := by
    unfold expF sigF
    rcases ktn_cases ua with ⟨h1, h2⟩ | ⟨h1, h2, h3⟩
    · rw [h2]; omega
    · rw [h3]; omega
  obtain ⟨h1, h2⟩ := hp
  unfold exN exE; rw [h1, h2]; exact ⟨rfl, rfl⟩
theorem minus_whole {m : Nat} {a b : Int} (ha : bl a.natAbs ≤ 53) (hb : bl b.natAbs ≤ 53) (h0 : a - b ≠ 0) (hs : bl (a - b).natAbs ≤ 53) : addS m (wholeB a) (turnN (wholeB b)) = (wholeB (a - b), 0) :=
  sub_whole ha hb h0 hs (kind_turn (whole_val b hb).1) (ktn_neg (whole_val b hb).1) (ktn_ex (whole_val b hb).1)
theorem and_26 (A : Nat) : bits .and .u64 (A : Int) 67108863 = ((A % 67108864 : Nat) : Int) := by
  have h1 : bits .and .u64 (A : Int) 67108863 = IntKind.u64.wrap ((BitVec.ofInt 64 (A : Int) &&& BitVec.ofInt 64 67108863).toNat : Int) := rfl
  have h2 : (BitVec.ofInt 64 (A : Int) &&& BitVec.ofInt 64 67108863).toNat = (BitVec.ofInt 64 (A : Int)).toNat % 67108864 := by
    rw [BitVec.toNat_and, show (BitVec.ofInt 64 67108863).toNat = 2 ^ 26 - 1 from by decide, Nat.and_two_pow_sub_one_eq_mod]
  rw [h1, h2, IntKind.wrap_u64, BitVec.toNat_ofInt]
  omega
theorem and_16 (x : Int) : bits .and .i64 x 65535 = x % 65536 := by
  have h1 : bits .and .i64 x 65535 = IntKind.i64.wrap ((BitVec.ofInt 64 x &&& BitVec.ofInt 64 65535).toNat : Int) := rfl
  have h2 : (BitVec.ofInt 64 x &&& BitVec.ofInt 64 65535).toNat = (BitVec.ofInt 64 x).toNat % 65536 := by
    rw [BitVec.toNat_and, show (BitVec.ofInt 64 65535).toNat = 2 ^ 16 - 1 from by decide, Nat.and_two_pow_sub_one_eq_mod]
  rw [h1, h2, IntKind.wrap_i64, BitVec.toNat_ofInt]
  omega
theorem and_20 (x : Int) : bits .and .i64 x 1048575 = x % 1048576 := by
  have h1 : bits .and .i64 x 1048575 = IntKind.i64.wrap ((BitVec.ofInt 64 x &&& BitVec.ofInt 64 1048575).toNat : Int) := rfl
  have h2 : (BitVec.ofInt 64 x &&& BitVec.ofInt 64 1048575).toNat = (BitVec.ofInt 64 x).toNat % 1048576 := by
    rw [BitVec.toNat_and, show (BitVec.ofInt 64 1048575).toNat = 2 ^ 20 - 1 from by decide, Nat.and_two_pow_sub_one_eq_mod]
  rw [h1, h2, IntKind.wrap_i64, BitVec.toNat_ofInt]
  omega
theorem blk_53 {n : Int} (h : n.natAbs < 9007199254740992) : bl n.natAbs ≤ 53 := bl_le.2 h
theorem mul_small {a b : Int} (ha : a.natAbs ≤ 33554432) (hb : b.natAbs ≤ 33554432) : (a * b).natAbs ≤ 1125899906842624 := by
  rw [Int.natAbs_mul]; exact Nat.mul_le_mul ha hb
theorem cube_small {k : Nat} (h : k < 65536) : k * k < 4294967296 ∧ k * k * k < 281474976710656 := by
  have h1 : k * k ≤ 65535 * 65535 := Nat.mul_le_mul (by omega) (by omega)
  have h2 : k * k * k ≤ 65535 * 65535 * 65535 := Nat.mul_le_mul h1 (by omega)
  exact ⟨by omega, by omega⟩
/-- A test of a whole number, and what holds if it is not 0. -/
def Unless (n : Int) (s w f : Nat) : Prop := n = 0 ∨ ((n != 0) = true ∧ (n == 0) = false ∧ ¬ n = 0 ∧ s = w ∧ f = 0)
theorem wholeB_0 : wholeB 0 = 0 := by unfold wholeB; rw [if_pos rfl]
theorem wr {x : Int} (h : x.natAbs < 9223372036854775808) : IntKind.i64.wrap x = x := by rw [IntKind.wrap_i64]; omega
end Go.Proofs.YtldmbneckcjonabDoor
