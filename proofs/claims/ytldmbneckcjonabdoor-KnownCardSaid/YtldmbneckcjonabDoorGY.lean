/- Several texts in one: Plain: how the roundings of one number in all modes stand to one another. No program in sight; each lemma states its own conditions. · softfloatlaw: nan, order. · Cells that a function's own blocks hold, as a list: kept behind calls, allocs, stores into blocks made later. -/
import Derived.Test.YtldmbneckcjonabDoorGC
import Derived.Test.YtldmbneckcjonabDoorGZ
import Derived.Test.YtldmbneckcjonabDoorGM
import Derived.Test.YtldmbneckcjonabDoorGN
set_option linter.unusedVariables false
set_option linter.unusedSimpArgs false
namespace Go.Proofs.YtldmbneckcjonabDoor
/-- Whether mode m makes the last place of what is cut off one more, if it is not exact: of up alone what the law asks. -/
def ModeUp (m : Nat) (ng up X : Bool) : Prop := (up = true → X = true) ∧ (m = 2 → up = false) ∧ (m = 3 → up = (X && !ng)) ∧ (m = 4 → up = (X && ng))
theorem upB_mode (m : Nat) (ng o h b : Bool) : ModeUp m ng (upB m ng o h b) (h || b) := by
  unfold ModeUp upB
  refine ⟨?_, ?_, ?_, ?_⟩
  · intro h1
    (repeat' split at h1) <;> cases h <;> cases b <;> simp_all
  · rintro rfl; simp
  · rintro rfl; cases h <;> cases b <;> cases ng <;> simp
  · rintro rfl; cases h <;> cases b <;> cases ng <;> simp
/-- n without its last K places (below 0: with some more). -/
def flS (n : Nat) (K : Int) : Nat := if K ≤ 0 then n * 2 ^ (-K).toNat else n / 2 ^ K.toNat
theorem cut_mode {n : Nat} {l ng : Bool} {K : Int} (hl : K ≤ 0 → l = false) (m : Nat) : ∃ u : Bool, cutS m ng n l K = flS n K + (if u then 1 else 0) ∧ ModeUp m ng u (lostS n l K) := by
  by_cases hK : K ≤ 0
  · refine ⟨false, ?_, ?_⟩
    · rw [cutS_neg hK]; unfold flS; rw [if_pos hK]; rfl
    · rw [lostS_neg hK, hl hK]; unfold ModeUp; simp
  · obtain ⟨k, rfl⟩ : ∃ k : Nat, K = k := ⟨K.toNat, by omega⟩
    have hk : 0 < k := by omega
    refine ⟨upB m ng (decide (n / 2 ^ k % 2 = 1)) (halfB n k) (belowB n k || l), ?_, ?_⟩
    · rw [cutS_pos hk]; unfold flS; rw [if_neg hK, Int.toNat_natCast]; split <;> rfl
    · rw [lostS_pos hk]; exact upB_mode _ _ _ _ _
theorem flS_bl {n : Nat} {K : Int} (h0 : n ≠ 0) (hK : K < bl n) : (bl (flS n K) : Int) = bl n - K := by
  unfold flS
  by_cases hK0 : K ≤ 0
  · rw [if_pos hK0, bl_shift h0]; omega
  · rw [if_neg hK0]
    have h1 := two_bl_le h0
    have h2 : 2 ^ K.toNat ≤ n := Nat.le_trans (Nat.pow_le_pow_right (by decide) (by omega)) h1
    have h3 := Nat.div_pos h2 (Nat.two_pow_pos _)
    have := bl_high (n := n) (k := K.toNat) (by omega)
    omega
theorem flS_lt {n : Nat} {K : Int} (hK : (bl n : Int) - K ≤ 52) : flS n K < 2 ^ 52 := by
  have h2 := lt_two_bl n
  unfold flS
  by_cases hK0 : K ≤ 0
  · rw [if_pos hK0]
    have h3 : n * 2 ^ (-K).toNat < 2 ^ bl n * 2 ^ (-K).toNat := Nat.mul_lt_mul_of_pos_right h2 (Nat.two_pow_pos _)
    rw [← Nat.pow_add] at h3
    exact Nat.lt_of_lt_of_le h3 (Nat.pow_le_pow_right (by decide) (by omega))
  · rw [if_neg hK0, Nat.div_lt_iff_lt_mul (Nat.two_pow_pos _), ← Nat.pow_add]
    exact Nat.lt_of_lt_of_le h2 (Nat.pow_le_pow_right (by decide) (by omega))
theorem bl_53 {x : Nat} (h1 : 4503599627370496 ≤ x) (h2 : x < 9007199254740992) : bl x = 53 := bl_eq (k := 52) h1 h2
theorem bl_54 : bl 9007199254740992 = 54 := bl_eq (k := 53) (by decide) (by decide)
/-- The results of one number in all modes: T, or one more where it is not exact. -/
def Near (R : Nat → Nat × Nat) (ng : Bool) (T : Nat) (X : Bool) : Prop := T < 9218868437227405312 ∧ ∀ m, ∃ (u : Bool) (f : Nat), R m = (signN ng + (T + (if u then 1 else 0)), f) ∧ f % 2 = (if X then 1 else 0) ∧ ModeUp m ng u X
theorem round_near {n : Nat} {l ng : Bool} {e : Int} (h0 : n ≠ 0) (hl : l = true → 54 ≤ bl n) : ∃ T X, Near (fun m => roundS m ng n l e) ng T X := by
  obtain ⟨K, hK⟩ : ∃ K : Int, K = (bl n : Int) - 53 := ⟨_, rfl⟩
  obtain ⟨q, hq⟩ : ∃ q, q = flS n K := ⟨_, rfl⟩
  have hp0 := bl_pos.2 h0
  have hqb : bl q = 53 := by have := flS_bl (K := K) h0 (by omega); rw [← hq] at this; omega
  have hq0 : q ≠ 0 := by intro h; subst h; have := bl_pos (n := 0); omega
  have hq1 : 4503599627370496 ≤ q := by have := two_bl_le hq0; rw [hqb] at this; exact this
  have hq2 : q < 9007199254740992 := by have := lt_two_bl q; rw [hqb] at this; exact this
  have hlK : K ≤ 0 → l = false := fun h => by
    cases hl0 : l with
    | false => rfl
    | true => have := hl hl0; omega
  have C := cut_mode (n := n) (l := l) (ng := ng) hlK
  obtain ⟨t, ht⟩ : ∃ t : Int, t = e + bl n - 1 := ⟨_, rfl⟩
  by_cases hA : 1024 ≤ t
  · refine ⟨9218868437227405311, true, by decide, fun m => ?_⟩
    obtain ⟨u, c1, c2⟩ := C m
    have htop : 1024 ≤ topS m ng n l e := by
      unfold topS; rw [← hK, c1, ← hq]
      have : 53 ≤ bl (q + (if u then 1 else 0)) := by rw [← hqb]; exact bl_mono (by omega)
      omega
    refine ⟨!decide (m = 2 ∨ (m = 3 ∧ ng = true) ∨ (m = 4 ∧ ng = false)), 5, ?_, rfl, ?_⟩
    · show roundS m ng n l e = _
      unfold roundS
      rw [if_pos htop]
      by_cases hm : m = 2 ∨ (m = 3 ∧ ng = true) ∨ (m = 4 ∧ ng = false)
      · rw [if_pos hm, decide_eq_true hm]; simp only [Bool.not_true, Bool.false_eq_true, if_false, Nat.add_zero]
      · rw [if_neg hm, decide_eq_false hm]; simp only [Bool.not_false, if_true, Nat.reduceAdd]
    · unfold ModeUp
      refine ⟨fun _ => rfl, ?_, ?_, ?_⟩
      · rintro rfl; simp
      · rintro rfl; cases ng <;> rfl
      · rintro rfl; cases ng <;> rfl
  · by_cases hB : -1022 ≤ t
    · obtain ⟨j, hj⟩ : ∃ j : Nat, (j : Int) = t + 1023 := ⟨(t + 1023).toNat, by omega⟩
      refine ⟨j * 4503599627370496 + (q - 4503599627370496), lostS n l K, by omega, fun m => ?_⟩
      obtain ⟨u, c1, c2⟩ := C m
      rw [← hq] at c1
      show ∃ u f, roundS m ng n l e = _ ∧ _
      cases u with
      | false =>
        have c3 : cutS m ng n l K = q := c1
        have htop : topS m ng n l e = t := by unfold topS; rw [← hK, c3, hqb]; omega
        refine ⟨false, if lostS n l K then 1 else 0, ?_, by split <;> rfl, c2⟩
        unfold roundS
        rw [htop, if_neg (by omega), if_neg (by omega), ← hK, c3, hqb, if_neg (by decide), ← hj, Int.toNat_natCast]
        simp only [Bool.false_eq_true, if_false, Prod.mk.injEq, and_true]
        omega
      | true =>
        have c3 : cutS m ng n l K = q + 1 := c1
        have hX : lostS n l K = true := c2.1 rfl
        by_cases hc : q + 1 < 9007199254740992
        · have hb1 : bl (q + 1) = 53 := bl_53 (by omega) hc
          have htop : topS m ng n l e = t := by unfold topS; rw [← hK, c3, hb1]; omega
          refine ⟨true, 1, ?_, by rw [hX]; rfl, c2⟩
          unfold roundS
          rw [htop, if_neg (by omega), if_neg (by omega), ← hK, c3, hb1, if_neg (by decide), ← hj, Int.toNat_natCast, hX]
          simp only [if_true, Prod.mk.injEq, and_true]
          omega
        · have hc1 : q + 1 = 9007199254740992 := by omega
          rw [hc1] at c3
          have htop : topS m ng n l e = t + 1 := by unfold topS; rw [← hK, c3, bl_54]; omega
          by_cases hO : 1024 ≤ t + 1
          · refine ⟨true, 5, ?_, by rw [hX]; rfl, c2⟩
            have hm : ¬ (m = 2 ∨ (m = 3 ∧ ng = true) ∨ (m = 4 ∧ ng = false)) := by
              obtain ⟨_, d2, d3, d4⟩ := c2
              rw [hX] at d3 d4
              rintro (h | ⟨h, h'⟩ | ⟨h, h'⟩)
              · exact absurd (d2 h) (by decide)
              · have := d3 h; rw [h'] at this; exact absurd this (by decide)
              · have := d4 h; rw [h'] at this; exact absurd this (by decide)
            unfold roundS
            rw [htop, if_pos hO, if_neg hm]
            simp only [if_true, Prod.mk.injEq, and_true]
            omega
          · refine ⟨true, 1, ?_, by rw [hX]; rfl, c2⟩
            unfold roundS
            rw [htop, if_neg hO, if_neg (by omega), ← hK, c3, bl_54, if_pos rfl, hX, show t + 1 + 1023 = ((j + 1 : Nat) : Int) from by omega, Int.toNat_natCast]
            simp only [if_true, Prod.mk.injEq, and_true]
            omega
    · have hK2 : K + 1 ≤ -1074 - e := by omega
      have hT := flS_lt (n := n) (K := -1074 - e) (by omega)
      have hT2 : flS n (-1074 - e) < 4503599627370496 := hT
      have hl2 : -1074 - e ≤ 0 → l = false := fun h => hlK (by omega)
      refine ⟨flS n (-1074 - e), lostS n l (-1074 - e), by omega, fun m => ?_⟩
      obtain ⟨u, c1, c2⟩ := C m
      obtain ⟨v, d1, d2⟩ := cut_mode (n := n) (l := l) (ng := ng) hl2 m
      rw [← hq] at c1
      show ∃ u f, roundS m ng n l e = _ ∧ _
      by_cases hS : topS m ng n l e < -1022
      · refine ⟨v, if lostS n l (-1074 - e) then 3 else 0, ?_, by split <;> rfl, d2⟩
        unfold roundS
        rw [if_neg (by omega), if_pos hS, d1]
      · have hu : u = true := by
          cases hu : u with
          | true => rfl
          | false =>
            rw [hu] at c1
            have c3 : cutS m ng n l K = q := c1
            have htop : topS m ng n l e = t := by unfold topS; rw [← hK, c3, hqb]; omega
            omega
        subst hu
        have c3 : cutS m ng n l K = q + 1 := c1
        have hX : lostS n l K = true := c2.1 rfl
        have hKp : ¬ K ≤ 0 := fun h => by rw [lostS_neg h, hlK h] at hX; exact absurd hX (by decide)
        by_cases hc : q + 1 < 9007199254740992
        · exfalso
          have hb1 : bl (q + 1) = 53 := bl_53 (by omega) hc
          have htop : topS m ng n l e = t := by unfold topS; rw [← hK, c3, hb1]; omega
          omega
        · have hc1 : q + 1 = 9007199254740992 := by omega
          rw [hc1] at c3
          have htop : topS m ng n l e = t + 1 := by unfold topS; rw [← hK, c3, bl_54]; omega
          have ht1 : t = -1023 := by omega
          obtain ⟨k, hk⟩ : ∃ k : Nat, K = k := ⟨K.toNat, by omega⟩
          have hk1 : -1074 - e = ((k + 1 : Nat) : Int) := by omega
          have hqk : q = n / 2 ^ k := by rw [hq, hk]; unfold flS; rw [if_neg (by omega), Int.toNat_natCast]
          have hT3 : flS n (-1074 - e) = 4503599627370495 := by
            rw [hk1]; unfold flS; rw [if_neg (by omega), Int.toNat_natCast, Nat.pow_succ, ← Nat.div_div_eq_div_mul, ← hqk]; omega
          have hX2 : lostS n l (-1074 - e) = true := by
            rw [hk1, lostS_pos (by omega)]
            have : halfB n (k + 1) = true := by unfold halfB; rw [Nat.add_sub_cancel, ← hqk]; exact decide_eq_true (by omega)
            rw [this]; rfl
          refine ⟨true, 1, ?_, by rw [hX2]; rfl, by rw [hX2]; rw [hX] at c2; exact c2⟩
          have e1 : (t + 1 + 1023).toNat = 1 := by omega
          unfold roundS
          rw [htop, if_neg (by omega), if_neg (by omega), ← hK, c3, bl_54, if_pos rfl, hX, e1, hT3]
          simp only [if_true, Nat.reduceMul, Nat.reduceDiv, Nat.reduceSub, Nat.reduceAdd, Nat.add_zero]
end Go.Proofs.YtldmbneckcjonabDoor
namespace Go.Proofs.YtldmbneckcjonabDoor
open Go.RowKit
/-- Is it a NaN? -/
def nanQ (b : Nat) : Bool := decide (18437736874454810624 < b * 2 % 18446744073709551616)
theorem nanQ_kind {b : Nat} (ub : U64 b) : nanQ b = decide (4 ≤ kindN b) := by
  unfold U64 at ub
  unfold nanQ kindN
  rw [Bool.eq_iff_iff, decide_eq_true_eq, decide_eq_true_eq]
  (repeat' split) <;> omega
/-- A number's place among all. -/
def ordI (b : Nat) : Int := if negU b then -((b % 9223372036854775808 : Nat) : Int) else b
set_option maxRecDepth 100000 in
set_option maxHeartbeats 400000 in
theorem nan_any (b : Nat) (w : World) : Calls Tryd.prog 11 #[.int .u64 b] w fun e w' => e = .returned (.bool (nanQ b)) ∧ w = w' := by
  have h : decide (18437736874454810624 < IntKind.u64.wrap ((b : Int) * 2)) = nanQ b := by
    unfold nanQ; rw [decide_eq_decide, IntKind.wrap_u64]; omega
  go_enter Tryd.func11, Tryd.ntmps11
  go_wp2_with fail
  go_ret
  exact ⟨rfl, rfl⟩
theorem and_low {b : Nat} (ub : U64 b) : bits .and .u64 (b : Int) 9223372036854775807 = ((b % 9223372036854775808 : Nat) : Int) := by
  have := u64_and_nat b 9223372036854775807 ub (by unfold U64; decide)
  rw [show ((9223372036854775807 : Nat) : Int) = 9223372036854775807 from rfl] at this
  rw [this]
  have h := Nat.and_two_pow_sub_one_eq_mod b 63
  rw [show (2 : Nat) ^ 63 - 1 = 9223372036854775807 from by decide, show (2 : Nat) ^ 63 = 9223372036854775808 from by decide] at h
  rw [h]
set_option maxRecDepth 100000 in
set_option maxHeartbeats 400000 in
theorem order_0 (b : Nat) (hn : ((b : Int) / 9223372036854775808 == 1) = false) (o : Int) (h : wrap64 (b : Int) = o) (w : World) : Calls Tryd.prog 12 #[.int .u64 b] w fun e w' => e = .returned (.int .i64 o) ∧ w = w' := by
  go_enter Tryd.func12, Tryd.ntmps12
  go_wp2_with fail
  go_ret
  exact ⟨by rw [← h]; rfl, rfl⟩
set_option maxRecDepth 100000 in
set_option maxHeartbeats 400000 in
theorem order_1 (b : Nat) (hn : ((b : Int) / 9223372036854775808 == 1) = true) (o l : Int) (ha : bits .and .u64 (b : Int) 9223372036854775807 = l) (h1 : wrap64 l = l) (h : wrap64 (-l) = o) (w : World) : Calls Tryd.prog 12 #[.int .u64 b] w fun e w' => e = .returned (.int .i64 o) ∧ w = w' := by
  go_enter Tryd.func12, Tryd.ntmps12
  go_wp2_with fail
  go_ret
  exact ⟨by rw [← h]; rfl, rfl⟩
theorem order_any (b : Nat) (ub : U64 b) (w : World) : Calls Tryd.prog 12 #[.int .u64 b] w fun e w' => e = .returned (.int .i64 (ordI b)) ∧ w = w' := by
  have hu := ub.out
  cases hn : negU b with
  | false =>
    have h2 : ¬ b / 9223372036854775808 = 1 := of_decide_eq_false hn
    refine order_0 b ((neg_div b).trans hn) _ ?_ w
    unfold ordI; rw [hn, if_neg (by decide)]; unfold wrap64; omega
  | true =>
    refine order_1 b ((neg_div b).trans hn) _ _ (and_low ub) (by unfold wrap64; omega) ?_ w
    unfold ordI; rw [hn, if_pos rfl]; unfold wrap64; omega
end Go.Proofs.YtldmbneckcjonabDoor
namespace Go.Proofs.YtldmbneckcjonabDoor
open Go.RowKit
/-- W holds the cells of C, all in blocks below B, which W has; nothing of w's is changed. -/
def Env (w : World) (B : Nat) (C : List (Nat × Nat × Value)) (W : World) : Prop := (∀ x ∈ C, W.cell? ⟨x.1, x.2.1, none⟩ = some x.2.2 ∧ x.1 < B) ∧ Below w.heap.size w W ∧ w.heap.size ≤ B ∧ B ≤ W.heap.size
section
variable {w W W1 : World} {B : Nat} {C : List (Nat × Nat × Value)}
theorem Env.below (h : Env w B C W) : Below w.heap.size w W := h.2.1
theorem Env.size (h : Env w B C W) : B ≤ W.heap.size := h.2.2.2
theorem Env.get (h : Env w B C W) {b i : Nat} {v : Value} (hx : (b, i, v) ∈ C) : W.cell? ⟨b, i, none⟩ = some v := (h.1 _ hx).1
theorem Env.lt (h : Env w B C W) {b i : Nat} {v : Value} (hx : (b, i, v) ∈ C) : b < B := (h.1 _ hx).2
theorem Env.call (h : Env w B C W) (hb : Below W.heap.size W W1) : Env w B C W1 := by
  obtain ⟨h1, h2, h3, h4⟩ := h
  refine ⟨fun x hx => ?_, h2.trans (hb.mono (by omega)), h3, Nat.le_trans h4 hb.size⟩
  obtain ⟨e, hl⟩ := h1 x hx
  exact ⟨by rw [hb.cell (p := ⟨x.1, x.2.1, none⟩) (Nat.lt_of_lt_of_le hl h4)]; exact e, hl⟩
theorem Env.drew (h : Env w B C W) : Env w B C W.drew := ⟨h.1, h.2.1.drew, h.2.2.1, h.2.2.2⟩
theorem Env.drewN (h : Env w B C W) (n : Nat) : Env w B C (W.drewN n) := ⟨h.1, bdrewN h.2.1 n, h.2.2.1, h.2.2.2⟩
theorem Env.alloc (h : Env w B C W) (o : Obj) : Env w B C (W.alloc o) := h.call ((Below.refl _ W).alloc (Nat.le_refl _) o)
theorem Env.put (h : Env w B C W) {g : Nat} (hg : B ≤ g) (i : Nat) (v : Value) : Env w B C (W.setCell ⟨g, i, none⟩ v) := by
  obtain ⟨h1, h2, h3, h4⟩ := h
  refine ⟨fun x hx => ?_, h2.setCell (p := ⟨g, i, none⟩) (by show w.heap.size ≤ g; omega) v, h3, by rw [World.size_setCell]; exact h4⟩
  obtain ⟨e, hl⟩ := h1 x hx
  refine ⟨(World.cell?_setCell_other _ _ _ _ ?_).trans e, hl⟩
  intro e2; injection e2 with e3; omega
theorem Env.raise (h : Env w B C W) {B2 : Nat} (h1 : B ≤ B2) (h2 : B2 ≤ W.heap.size) : Env w B2 C W := ⟨fun x hx => ⟨(h.1 x hx).1, Nat.lt_of_lt_of_le (h.1 x hx).2 h1⟩, h.2.1, Nat.le_trans h.2.2.1 h1, h2⟩
theorem Env.add (h : Env w B C W) {g i : Nat} {v : Value} (hc : W.cell? ⟨g, i, none⟩ = some v) (hg : g < B) : Env w B ((g, i, v) :: C) W := by
  refine ⟨fun x hx => ?_, h.2⟩
  rcases List.mem_cons.1 hx with rfl | hx
  · exact ⟨hc, hg⟩
  · exact h.1 x hx
theorem Env.add3 (h : Env w B C W) {g : Nat} {c0 c1 c2 : Value} (h0 : W.cell? ⟨g, 0, none⟩ = some c0) (h1 : W.cell? ⟨g, 1, none⟩ = some c1) (h2 : W.cell? ⟨g, 2, none⟩ = some c2) : Env w W.heap.size ((g, 0, c0) :: (g, 1, c1) :: (g, 2, c2) :: C) W := by
  have hl : g < W.heap.size := World.block_lt_of_cell? _ _ h0
  exact (((h.raise h.size (Nat.le_refl _)).add h2 hl).add h1 hl).add h0 hl
theorem Env.sub (h : Env w B C W) {D : List (Nat × Nat × Value)} (hs : ∀ x ∈ D, x ∈ C) : Env w B D W := ⟨fun x hx => h.1 x (hs x hx), h.2⟩
theorem Env.nil (h : Below w.heap.size w W) : Env w W.heap.size [] W := ⟨fun x hx => absurd hx List.not_mem_nil, h, h.size, Nat.le_refl _⟩
end
end Go.Proofs.YtldmbneckcjonabDoor
