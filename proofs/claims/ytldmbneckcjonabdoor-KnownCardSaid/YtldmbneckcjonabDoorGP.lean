/- Several texts in one: math/bits.Div64: where the high word is below the divisor: quotient and rest. · wide.Div: four words divided by one that is not 0. -/
import Derived.BigQuiet
import Derived.Deep.QuietTactic
import Derived.Deep.DeepCutAuto
import Derived.Deep.CutBlock
import Derived.Lib.Hide
import Derived.Handy
import Derived.Test.YtldmbneckcjonabDoorGA
set_option linter.unusedVariables false
set_option linter.unusedSimpArgs false
namespace Go.Proofs.YtldmbneckcjonabDoor
open Go.RowKit
theorem below_drewN {B : Nat} {a w : World} (h : Below B a w) (n : Nat) : Below B a (w.drewN n) := ⟨h.os, h.tape, h.output, h.size, h.block⟩
theorem and_32 (a : Int) : bits .and .u64 a 4294967295 = a % 4294967296 := and_mask a 32 (by decide)
theorem wrap_nat (x : Int) : ∃ t : Nat, IntKind.u64.wrap x = t := ⟨(IntKind.u64.wrap x).toNat, by rw [IntKind.wrap_u64]; omega⟩
theorem cast_eq {a b : Nat} (h : a = b) : Value.int .u64 a = .int .u64 b := by rw [h]
theorem ret2_u64 {a b a' b' : Int} (h1 : a = a') (h2 : b = b') : Ending.returned (.tuple #[.int .u64 a, .int .u64 b]) = .returned (.tuple #[.int .u64 a', .int .u64 b']) := by rw [h1, h2]
/-- What the arithmetic of a division's step is: the divisor's halves, u below it, d a half word. -/
structure KD (Y h l u d : Nat) : Prop where
  hY : Y = h * 4294967296 + l
  hl : l < 4294967296
  hh : 2147483648 ≤ h
  hh2 : h < 4294967296
  hu : u < Y
  hd : d < 4294967296
theorem kd_round {Y h l u d q r t1 t2 t3 q' r' : Nat} (k : KD Y h l u d) (g : Guess h u ((u * 4294967296 + d) / Y) q r)
    (ht1 : IntKind.u64.wrap ((q : Int) * l) = t1) (ht2 : IntKind.u64.wrap (4294967296 * (r : Int)) = t2) (ht3 : IntKind.u64.wrap ((t2 : Int) + d) = t3)
    (hq' : IntKind.u64.wrap ((q : Int) - 1) = q') (hr' : IntKind.u64.wrap ((r : Int) + h) = r') :
    ((Ge32 q ∨ t3 < t1) → (Lt32 r' → Guess h u ((u * 4294967296 + d) / Y) q' r') ∧ (Ge32 r' → q' = (u * 4294967296 + d) / Y) ∧ Left32 r' < Left32 r) ∧
    (Lt32 q → ¬ t3 < t1 → q = (u * 4294967296 + d) / Y) := by
  obtain ⟨e, hQ, hq, hr⟩ := g
  obtain ⟨hY, hl, hh, hh2, hu, hd⟩ := k
  rw [IntKind.wrap_u64] at ht1 ht2 ht3 hq' hr'
  have er : r' = r + h := by omega
  have e2 : t2 = 4294967296 * r := by omega
  have e3 : t3 = 4294967296 * r + d := by omega
  have e1 : q < 4294967296 → t1 = q * l := fun hlt => by
    have : q * l ≤ 4294967295 * 4294967295 := Nat.mul_le_mul (by omega) (by omega)
    have hc : ((q * l : Nat) : Int) = (q : Int) * l := by simp
    rw [← hc] at ht1
    omega
  constructor
  · intro ht
    have hlt : (u * 4294967296 + d) / Y < q := by
      refine kd_true hY hu hd e ?_
      rcases Nat.lt_or_ge q 4294967296 with h1 | h1
      · rcases ht with ht | ht
        · exact .inl ht
        · rw [e1 h1, e3] at ht; exact .inr ht
      · exact .inl h1
    have h1q : 1 ≤ q := Nat.lt_of_le_of_lt (Nat.zero_le _) hlt
    have hle : (u * 4294967296 + d) / Y ≤ q - 1 := Nat.le_sub_one_of_lt hlt
    clear hQ
    have eq : q' = q - 1 := by clear hlt hle; omega
    rw [← eq] at hle
    have em : (q - 1) * h + (r + h) = u := by
      obtain ⟨p, rfl⟩ : ∃ p, q = p + 1 := ⟨q - 1, by omega⟩
      rw [Nat.add_mul] at e; simp only [Nat.add_sub_cancel]; omega
    refine ⟨fun hb => ⟨by rw [eq, er]; exact em, hle, by clear hlt hle; omega, hb⟩, fun hb => kd_break (h := h) (l := l) (r := r') hY hl hu (by rw [eq, er]; exact em) (by clear hlt hle; omega) hb hle, by unfold Left32; simp only [Int.toNat_natCast]; omega⟩
  · intro h1 h2
    rw [e1 h1, e3] at h2
    exact kd_false hY hu e (by omega) hQ
attribute [local go_sem] and_32 ge32_no ge32_yes
set_option maxRecDepth 100000 in
set_option maxHeartbeats 4000000 in
theorem Div64_big (hi lo y s Y h l u ud d1 d0 q0 r0 Q1 u2 p0 s0 Q0 qq rr : Nat) (hy : U64 y) (h0 : ((hi : Int) == 0) = false) (hy0 : ((y : Int) == 0) = false) (hlt : hi < y)
    (hs : (64 : Int) - (bl y : Int) = s) (hs2 : s < 64) (hY : IntKind.u64.wrap ((y : Int) * 2 ^ s) = Y) (hh : (Y : Int) / 4294967296 = h) (hl : (Y : Int) % 4294967296 = l)
    (hu : bits .or .u64 (IntKind.u64.wrap ((hi : Int) * 2 ^ s)) ((lo : Int) / 2 ^ (64 - s)) = u) (hud : IntKind.u64.wrap ((lo : Int) * 2 ^ s) = ud) (hd1 : (ud : Int) / 4294967296 = d1) (hd0 : (ud : Int) % 4294967296 = d0)
    (hh0 : 0 < h) (hq : IntKind.u64.wrap ((u : Int) / h) = q0) (hr : IntKind.u64.wrap ((u : Int) - IntKind.u64.wrap (q0 * h)) = r0)
    (k1 : KD Y h l u d1) (eQ1 : Hid ((u * 4294967296 + d1) / Y = Q1)) (g1 : Guess h u Q1 q0 r0)
    (hu2 : IntKind.u64.wrap (IntKind.u64.wrap (IntKind.u64.wrap ((u : Int) * 4294967296) + d1) - IntKind.u64.wrap (Q1 * Y)) = u2)
    (hp0 : IntKind.u64.wrap ((u2 : Int) / h) = p0) (hs0 : IntKind.u64.wrap ((u2 : Int) - IntKind.u64.wrap (p0 * h)) = s0)
    (k2 : KD Y h l u2 d0) (eQ0 : Hid ((u2 * 4294967296 + d0) / Y = Q0)) (g2 : Guess h u2 Q0 p0 s0)
    (hqq : IntKind.u64.wrap (IntKind.u64.wrap ((Q1 : Int) * 4294967296) + Q0) = qq) (hrr : IntKind.u64.wrap (IntKind.u64.wrap (IntKind.u64.wrap ((u2 : Int) * 4294967296) + d0) - IntKind.u64.wrap (Q0 * Y)) = rr) (w : World) :
    Calls Tryd.prog 59 #[.int .u64 hi, .int .u64 lo, .int .u64 y] w fun e w' => e = .returned (.tuple #[.int .u64 qq, .int .u64 (rr / 2 ^ s : Nat)]) ∧ w = w' := by
  go_enter Tryd.func59, Tryd.ntmps59
  go_upto_block 0 with (go_at_call 53; refine (LeadingZeros64_any _ hy _).mono ?_; rintro e w1 ⟨rfl, rfl⟩)
  go_cut [15, 16] (fun q _ wx => q = .int .u64 Q1 ∧ w = wx)
  case first =>
    go_wp2
    go_loop [15, 16] (fun x y => ∃ q r : Nat, x = .int .u64 q ∧ y = .int .u64 r ∧ Guess h u Q1 q r) (fun _ y => Left32 (intOf y))
    case atStart => exact ⟨_, _, rfl, rfl, g1⟩
    case round =>
      obtain ⟨q, r, rfl, rfl, hg⟩ := hrel
      obtain ⟨t1, ht1⟩ : ∃ t : Nat, IntKind.u64.wrap ((q : Int) * l) = t := wrap_nat _
      obtain ⟨t2, ht2⟩ : ∃ t : Nat, IntKind.u64.wrap (4294967296 * (r : Int)) = t := wrap_nat _
      obtain ⟨t3, ht3⟩ : ∃ t : Nat, IntKind.u64.wrap ((t2 : Int) + d1) = t := wrap_nat _
      obtain ⟨q', hq'⟩ : ∃ t : Nat, IntKind.u64.wrap ((q : Int) - 1) = t := wrap_nat _
      obtain ⟨r', hr'⟩ : ∃ t : Nat, IntKind.u64.wrap ((r : Int) + h) = t := wrap_nat _
      have G := kd_round k1 (by rw [eQ1.out]; exact hg) ht1 ht2 ht3 hq' hr'
      rw [eQ1.out] at G
      have G := Lib.hid G
      rcases lt32_or q with hq0 | hq0
      · by_cases hc : t3 < t1
        · rcases lt32_or r' with hb | hb
          · go_wp2
            go_round
            case rel => exact ⟨q', r', rfl, rfl, (G.out.1 (.inr hc)).1 hb⟩
            case measure => simp only [intOf]; exact (G.out.1 (.inr hc)).2.2
          · go_wp2
            go_meet
            (first | exact ⟨rfl, rfl⟩ | exact ⟨by rw [(G.out.1 (.inr hc)).2.1 hb], rfl⟩)
        · go_wp2
          go_meet
          (first | exact ⟨rfl, rfl⟩ | exact ⟨by rw [G.out.2 hq0 hc], rfl⟩)
      · rcases lt32_or r' with hb | hb
        · go_wp2
          go_round
          case rel => exact ⟨q', r', rfl, rfl, (G.out.1 (.inl hq0)).1 hb⟩
          case measure => simp only [intOf]; exact (G.out.1 (.inl hq0)).2.2
        · go_wp2
          go_meet
          (first | exact ⟨rfl, rfl⟩ | exact ⟨by rw [(G.out.1 (.inl hq0)).2.1 hb], rfl⟩)
  obtain ⟨rfl, rfl⟩ := hcut
  go_upto_block 2 with (fail)
  go_cut [18, 16] (fun q _ wx => q = .int .u64 Q0 ∧ w = wx)
  case first =>
    go_wp2
    go_loop [18, 16] (fun x y => ∃ q r : Nat, x = .int .u64 q ∧ y = .int .u64 r ∧ Guess h u2 Q0 q r) (fun _ y => Left32 (intOf y))
    case atStart => exact ⟨_, _, rfl, rfl, g2⟩
    case round =>
      obtain ⟨q, r, rfl, rfl, hg⟩ := hrel
      obtain ⟨t1, ht1⟩ : ∃ t : Nat, IntKind.u64.wrap ((q : Int) * l) = t := wrap_nat _
      obtain ⟨t2, ht2⟩ : ∃ t : Nat, IntKind.u64.wrap (4294967296 * (r : Int)) = t := wrap_nat _
      obtain ⟨t3, ht3⟩ : ∃ t : Nat, IntKind.u64.wrap ((t2 : Int) + d0) = t := wrap_nat _
      obtain ⟨q', hq'⟩ : ∃ t : Nat, IntKind.u64.wrap ((q : Int) - 1) = t := wrap_nat _
      obtain ⟨r', hr'⟩ : ∃ t : Nat, IntKind.u64.wrap ((r : Int) + h) = t := wrap_nat _
      have G := kd_round k2 (by rw [eQ0.out]; exact hg) ht1 ht2 ht3 hq' hr'
      rw [eQ0.out] at G
      have G := Lib.hid G
      rcases lt32_or q with hq0 | hq0
      · by_cases hc : t3 < t1
        · rcases lt32_or r' with hb | hb
          · go_wp2
            go_round
            case rel => exact ⟨q', r', rfl, rfl, (G.out.1 (.inr hc)).1 hb⟩
            case measure => simp only [intOf]; exact (G.out.1 (.inr hc)).2.2
          · go_wp2
            go_meet
            (first | exact ⟨rfl, rfl⟩ | exact ⟨by rw [(G.out.1 (.inr hc)).2.1 hb], rfl⟩)
        · go_wp2
          go_meet
          (first | exact ⟨rfl, rfl⟩ | exact ⟨by rw [G.out.2 hq0 hc], rfl⟩)
      · rcases lt32_or r' with hb | hb
        · go_wp2
          go_round
          case rel => exact ⟨q', r', rfl, rfl, (G.out.1 (.inl hq0)).1 hb⟩
          case measure => simp only [intOf]; exact (G.out.1 (.inl hq0)).2.2
        · go_wp2
          go_meet
          (first | exact ⟨rfl, rfl⟩ | exact ⟨by rw [(G.out.1 (.inl hq0)).2.1 hb], rfl⟩)
  obtain ⟨rfl, rfl⟩ := hcut
  go_wp2
  go_ret2
  exact ⟨ret2_u64 rfl (by simp), rfl⟩
set_option maxRecDepth 100000 in
set_option maxHeartbeats 400000 in
theorem Div64_zero (lo y : Nat) (hy0 : ((y : Int) == 0) = false) (hlt : 0 < y) (qq rr : Nat) (hq : (lo : Int) / y = qq) (hr : (lo : Int) % y = rr) (hqq : IntKind.u64.wrap (qq : Int) = qq) (w : World) :
    Calls Tryd.prog 59 #[.int .u64 0, .int .u64 lo, .int .u64 y] w fun e w' => e = .returned (.tuple #[.int .u64 qq, .int .u64 rr]) ∧ Below w.heap.size w w' := by
  go_enter Tryd.func59, Tryd.ntmps59
  go_wp2
  go_quiet (fail)
  go_wp2
  go_ret2
  exact ⟨ret2_u64 rfl hr, below_drewN (Below.refl _ _) _⟩
theorem wrap_small {x : Nat} (h : x < 18446744073709551616) : IntKind.u64.wrap (x : Int) = x := by rw [IntKind.wrap_u64]; omega
theorem wrap_mul {x y : Nat} (h : x * y < 18446744073709551616) : IntKind.u64.wrap ((x : Int) * y) = ((x * y : Nat) : Int) := by
  rw [show (x : Int) * y = ((x * y : Nat) : Int) from by simp, wrap_small h]
/-- The rest by wrapped arithmetic. -/
theorem wrap_rest {u d Y Q : Nat} (hY : Y < 18446744073709551616) (h0 : 0 < Y) (hQ : Q = (u * 4294967296 + d) / Y) :
    IntKind.u64.wrap (IntKind.u64.wrap (IntKind.u64.wrap ((u : Int) * 4294967296) + d) - IntKind.u64.wrap (Q * Y)) = ((u * 4294967296 + d) % Y : Nat) := by
  have h1 := Nat.mod_lt (u * 4294967296 + d) h0
  have h2 := Nat.div_add_mod (u * 4294967296 + d) Y
  have h3 : ((Y * Q : Nat) : Int) = (Q : Int) * Y := by rw [Nat.mul_comm]; simp
  rw [← hQ] at h2
  simp only [IntKind.wrap_u64]
  rw [← h3]
  generalize (u * 4294967296 + d) % Y = m at *
  generalize Y * Q = p at *
  omega
theorem wrap_rest0 {u h q : Nat} (hu : u < 18446744073709551616) (hq : q = u / h) :
    IntKind.u64.wrap ((u : Int) - IntKind.u64.wrap (q * h)) = (u % h : Nat) := by
  have h2 := Nat.div_add_mod u h
  rw [← hq] at h2
  have h3 : ((h * q : Nat) : Int) = (q : Int) * h := by rw [Nat.mul_comm]; simp
  simp only [IntKind.wrap_u64]
  rw [← h3]
  generalize u % h = m at *
  generalize h * q = p at *
  omega
theorem wrap_join {a b : Nat} (ha : a < 4294967296) (hb : b < 4294967296) : IntKind.u64.wrap (IntKind.u64.wrap ((a : Int) * 4294967296) + b) = ((a * 4294967296 + b : Nat) : Int) := by
  simp only [IntKind.wrap_u64]; omega
theorem guess_start {Y h l u d : Nat} (k : KD Y h l u d) : Guess h u ((u * 4294967296 + d) / Y) (u / h) (u % h) := by
  obtain ⟨hY, hl, hh, hh2, hu, hd⟩ := k
  have h1 := Nat.div_add_mod u h
  have h2 := Nat.mod_lt u (show 0 < h by omega)
  exact ⟨by rw [Nat.mul_comm]; exact h1, kd_start hY hh hu hd, kd_start_le hY hl hh hu, by omega⟩
theorem Div64_any (hi lo y : Nat) (hlo : U64 lo) (hy : U64 y) (hlt : hi < y) (w : World) :
    Calls Tryd.prog 59 #[.int .u64 hi, .int .u64 lo, .int .u64 y] w fun e w' => e = .returned (.tuple #[.int .u64 ((hi * 18446744073709551616 + lo) / y : Nat), .int .u64 ((hi * 18446744073709551616 + lo) % y : Nat)]) ∧ Below w.heap.size w w' := by
  have hlo' := hlo.out
  have hy' := hy.out
  by_cases h0 : hi = 0
  · subst h0
    have hle : lo / y ≤ lo := Nat.div_le_self _ _
    have := Div64_zero lo y (by rw [beq_eq_false_iff_ne]; omega) (by omega) (lo / y) (lo % y) (by simp) (by simp) (wrap_small (by omega)) w
    simpa using this
  have hb1 := bl_word_le hy
  have hb0 : 0 < bl y := bl_pos.2 (by omega)
  obtain ⟨s, hs⟩ : ∃ s, s = 64 - bl y := ⟨_, rfl⟩
  have hs64 : s < 64 := by omega
  have hyp := lt_two_bl y
  have hyl := two_bl_le (show y ≠ 0 by omega)
  have e64 : 2 ^ bl y * 2 ^ s = 18446744073709551616 := by rw [← Nat.pow_add, show bl y + s = 64 from by omega]
  have e63 : 2 ^ (bl y - 1) * 2 ^ s = 9223372036854775808 := by rw [← Nat.pow_add, show bl y - 1 + s = 63 from by omega]
  have hY1 : y * 2 ^ s < 18446744073709551616 := by rw [← e64]; exact Nat.mul_lt_mul_of_pos_right hyp (Nat.two_pow_pos s)
  have hY2 : 9223372036854775808 ≤ y * 2 ^ s := by rw [← e63]; exact Nat.mul_le_mul_right _ hyl
  have hhi : hi * 2 ^ s < y * 2 ^ s := Nat.mul_lt_mul_of_pos_right hlt (Nat.two_pow_pos s)
  have el : lo * 2 ^ s = sL lo s + 18446744073709551616 * sH lo s := s_spec hs64
  have eh : sL hi s = hi * 2 ^ s := by have := s_spec (x := hi) hs64; have := sL_lt hi s; omega
  have hu1 : sLH hi lo s = hi * 2 ^ s + sH lo s := by unfold sLH; rw [eh]
  have hsl := sL_lt lo s
  have eN : (hi * 18446744073709551616 + lo) * 2 ^ s = sLH hi lo s * 18446744073709551616 + sL lo s := by
    rw [hu1, Nat.add_mul, el, Nat.mul_right_comm]; omega
  have hNlt : (hi * 18446744073709551616 + lo) * 2 ^ s < 18446744073709551616 * (y * 2 ^ s) := by
    rw [← Nat.mul_assoc]
    exact Nat.mul_lt_mul_of_pos_right (by omega) (Nat.two_pow_pos s)
  have huY : sLH hi lo s < y * 2 ^ s := by rw [eN] at hNlt; omega
  have hor : bits .or .u64 (IntKind.u64.wrap ((hi : Int) * 2 ^ s)) ((lo : Int) / 2 ^ (64 - s)) = (sLH hi lo s : Nat) := by
    rw [wrap_sL, div_sH, or_sLH hlo hs64]
  have hYw : IntKind.u64.wrap ((y : Int) * 2 ^ s) = ((y * 2 ^ s : Nat) : Int) := by
    have := wrap_mul (x := y) (y := 2 ^ s) hY1
    rwa [show (((2 : Nat) ^ s : Nat) : Int) = (2 : Int) ^ s from by simp] at this
  have hdv : ∀ z : Nat, (hi * 18446744073709551616 + lo) * 2 ^ s = z → z / (y * 2 ^ s) = (hi * 18446744073709551616 + lo) / y ∧ z % (y * 2 ^ s) / 2 ^ s = (hi * 18446744073709551616 + lo) % y := by
    intro z hz
    subst hz
    exact ⟨Nat.mul_div_mul_right _ _ (Nat.two_pow_pos s), by rw [Nat.mul_mod_mul_right, Nat.mul_div_cancel _ (Nat.two_pow_pos s)]⟩
  obtain ⟨hq1, hq2⟩ := hdv _ eN
  clear hdv
  generalize y * 2 ^ s = Y at *
  generalize sLH hi lo s = u at *
  generalize hud : sL lo s = ud at *
  have k1 : KD Y (Y / 4294967296) (Y % 4294967296) u (ud / 4294967296) := ⟨by omega, by omega, by omega, by omega, huY, by omega⟩
  have hY0 : 0 < Y := by omega
  have hum := Nat.mod_lt (u * 4294967296 + ud / 4294967296) hY0
  have k2 : KD Y (Y / 4294967296) (Y % 4294967296) ((u * 4294967296 + ud / 4294967296) % Y) (ud % 4294967296) := ⟨by omega, by omega, by omega, by omega, hum, by omega⟩
  have hQ1 := kd_lt k1.hu k1.hd
  have hQ0 := kd_lt k2.hu k2.hd
  have hj := kd_join (m := u * 4294967296 + ud / 4294967296) (b := ud % 4294967296) hY0
  have hjoin : (u * 4294967296 + ud / 4294967296) * 4294967296 + ud % 4294967296 = u * 18446744073709551616 + ud := by omega
  rw [hjoin] at hj
  have hle1 : u / (Y / 4294967296) ≤ u := Nat.div_le_self _ _
  have hle2 : (u * 4294967296 + ud / 4294967296) % Y / (Y / 4294967296) ≤ (u * 4294967296 + ud / 4294967296) % Y := Nat.div_le_self _ _
  have fin := Div64_big hi lo y s Y (Y / 4294967296) (Y % 4294967296) u ud (ud / 4294967296) (ud % 4294967296) (u / (Y / 4294967296)) (u % (Y / 4294967296)) ((u * 4294967296 + ud / 4294967296) / Y) ((u * 4294967296 + ud / 4294967296) % Y)
    ((u * 4294967296 + ud / 4294967296) % Y / (Y / 4294967296)) ((u * 4294967296 + ud / 4294967296) % Y % (Y / 4294967296)) (((u * 4294967296 + ud / 4294967296) % Y * 4294967296 + ud % 4294967296) / Y)
    ((u * 18446744073709551616 + ud) / Y) ((u * 18446744073709551616 + ud) % Y) hy (by rw [beq_eq_false_iff_ne]; omega) (by rw [beq_eq_false_iff_ne]; omega) hlt
    (by omega) hs64 hYw (by simp) (by simp) hor (by rw [wrap_sL, hud]) (by simp) (by simp) (by omega)
    (by rw [← Int.natCast_ediv]; exact wrap_small (by omega)) (wrap_rest0 (by omega) rfl) k1 (Lib.hid rfl) (guess_start k1) (wrap_rest (by omega) hY0 rfl)
    (by rw [← Int.natCast_ediv]; exact wrap_small (by omega)) (wrap_rest0 (by omega) rfl) k2 (Lib.hid rfl) (guess_start k2)
    (by rw [← hj.1]; exact wrap_join hQ1 hQ0) (by rw [← hj.2]; exact wrap_rest (by omega) hY0 rfl) w
  rw [hq1, hq2] at fin
  exact fin.mono fun e w' ⟨h1, h2⟩ => ⟨h1, h2 ▸ Below.refl _ _⟩
end Go.Proofs.YtldmbneckcjonabDoor
namespace Go.Proofs.YtldmbneckcjonabDoor
open Go.RowKit
@[irreducible] def dvQ (hi lo y : Nat) : Nat := (hi * 18446744073709551616 + lo) / y
@[irreducible] def dvR (hi lo y : Nat) : Nat := (hi * 18446744073709551616 + lo) % y
theorem dvR_lt (hi lo : Nat) {y : Nat} (h : 0 < y) : dvR hi lo y < y := by unfold dvR; exact Nat.mod_lt _ h
theorem dvQ_lt {hi lo y : Nat} (hlo : U64 lo) (h : hi < y) : U64 (dvQ hi lo y) := by
  have := hlo.out
  unfold dvQ U64
  rw [Nat.div_lt_iff_lt_mul (by omega)]; omega
theorem dv_spec (hi lo y : Nat) : hi * 18446744073709551616 + lo = y * dvQ hi lo y + dvR hi lo y := by unfold dvQ dvR; exact (Nat.div_add_mod _ _).symm
theorem Div64_w (hi lo y : Nat) (hlo : U64 lo) (hy : U64 y) (hlt : hi < y) (w : World) :
    Calls Tryd.prog 59 #[.int .u64 hi, .int .u64 lo, .int .u64 y] w fun e w' => e = .returned (.tuple #[.int .u64 (dvQ hi lo y), .int .u64 (dvR hi lo y)]) ∧ Below w.heap.size w w' := by
  have := Div64_any hi lo y hlo hy hlt w
  unfold dvQ dvR; exact this
theorem Div64_w0 (lo y : Nat) (hlo : U64 lo) (hy : U64 y) (hlt : 0 < y) (w : World) :
    Calls Tryd.prog 59 #[.int .u64 0, .int .u64 lo, .int .u64 y] w fun e w' => e = .returned (.tuple #[.int .u64 (dvQ 0 lo y), .int .u64 (dvR 0 lo y)]) ∧ Below w.heap.size w w' := Div64_w 0 lo y hlo hy hlt w
theorem of4_dist (d x y z t : Nat) : d * of4 x y z t = of4 (d * x) (d * y) (d * z) (d * t) := by
  unfold of4; rw [Nat.mul_add, Nat.mul_add, Nat.mul_add, Nat.mul_left_comm d, Nat.mul_left_comm d, Nat.mul_left_comm d]
theorem div_lin {w0 w1 w2 w3 x0 x1 x2 x3 r0 r1 r2 r3 : Nat} (s3 : w3 = x3 + r3) (s2 : r3 * 18446744073709551616 + w2 = x2 + r2) (s1 : r2 * 18446744073709551616 + w1 = x1 + r1) (s0 : r1 * 18446744073709551616 + w0 = x0 + r0) :
    w0 + 18446744073709551616 * w1 + 340282366920938463463374607431768211456 * w2 + 6277101735386680763835789423207666416102355444464034512896 * w3 = x0 + 18446744073709551616 * x1 + 340282366920938463463374607431768211456 * x2 + 6277101735386680763835789423207666416102355444464034512896 * x3 + r0 := by omega
theorem div_math {a d : Nat} (ha : U256 a) (hd : 0 < d) :
    let r3 := dvR 0 (wd 3 a) d
    let r2 := dvR r3 (wd 2 a) d
    let r1 := dvR r2 (wd 1 a) d
    W4 (a / d) = .agg #[.int .u64 (dvQ r1 (wd 0 a) d), .int .u64 (dvQ r2 (wd 1 a) d), .int .u64 (dvQ r3 (wd 2 a) d), .int .u64 (dvQ 0 (wd 3 a) d)] ∧ dvR r1 (wd 0 a) d = a % d := by
  intro r3 r2 r1
  have e := of4_wd ha
  have s3 : wd 3 a = d * dvQ 0 (wd 3 a) d + r3 := by have := dv_spec 0 (wd 3 a) d; rwa [Nat.zero_mul, Nat.zero_add] at this
  have s2 : r3 * 18446744073709551616 + wd 2 a = d * dvQ r3 (wd 2 a) d + r2 := dv_spec r3 (wd 2 a) d
  have s1 : r2 * 18446744073709551616 + wd 1 a = d * dvQ r2 (wd 1 a) d + r1 := dv_spec r2 (wd 1 a) d
  have s0 := dv_spec r1 (wd 0 a) d
  have l3 : r3 < d := dvR_lt 0 (wd 3 a) hd
  have l2 : r2 < d := dvR_lt r3 (wd 2 a) hd
  have l1 : r1 < d := dvR_lt r2 (wd 1 a) hd
  have l0 := dvR_lt r1 (wd 0 a) hd
  have key : a = d * of4 (dvQ r1 (wd 0 a) d) (dvQ r2 (wd 1 a) d) (dvQ r3 (wd 2 a) d) (dvQ 0 (wd 3 a) d) + dvR r1 (wd 0 a) d := by
    conv => lhs; rw [← e]
    rw [of4_dist]; unfold of4
    exact div_lin s3 s2 s1 s0
  have hdiv : a / d = of4 (dvQ r1 (wd 0 a) d) (dvQ r2 (wd 1 a) d) (dvQ r3 (wd 2 a) d) (dvQ 0 (wd 3 a) d) := by
    conv => lhs; rw [key]
    rw [Nat.mul_add_div hd, Nat.div_eq_of_lt l0, Nat.add_zero]
  have hmod : a % d = dvR r1 (wd 0 a) d := by
    conv => lhs; rw [key]
    rw [Nat.mul_add_mod, Nat.mod_eq_of_lt l0]
  exact ⟨by rw [hdiv]; exact words_eq (dvQ_lt (wd_u64 _ _) l1) (dvQ_lt (wd_u64 _ _) l2) (dvQ_lt (wd_u64 _ _) l3) (dvQ_lt (wd_u64 _ _) hd) rfl, hmod.symm⟩
theorem bne_zero (x : Nat) : ((x : Int) != 0) = decide (x ≠ 0) := by by_cases h : x = 0 <;> simp [h]
set_option maxRecDepth 100000 in
set_option maxHeartbeats 1000000 in
theorem Div_any (a d : Nat) (ha : U256 a) (hd : U64 d) (hd0 : 0 < d) (w : World) :
    Calls Tryd.prog 47 #[W4 a, .int .u64 d] w fun e w' => e = .returned (.tuple #[W4 (a / d), .bool (decide (a % d ≠ 0))]) ∧ Below w.heap.size w w' := by
  obtain ⟨e1, e2⟩ := div_math ha hd0
  rw [e1, ← e2, ← bne_zero]
  clear e1 e2
  go_enter Tryd.func47, Tryd.ntmps47
  go_wp2
  refine wp_loop_rounds 5 ?_
  rw [rounds_succ]
  go_wp2_with fail
  refine (Div64_w0 _ _ (wd_u64 _ _) hd hd0 _).mono ?_
  rintro e w1 ⟨rfl, hb1⟩; have hz_w1 := (hb1).size; (try simp at hz_w1); have hl_w1_0 : w.heap.size < w1.heap.size := (by omega); have hl_w1_1 : w.heap.size + 1 < w1.heap.size := (by omega); have hk_w1_0_0 : w1.cell? ⟨w.heap.size, 0, none⟩ = some (.int .u64 (wd 0 a)) := (by rw [hb1.cell (p := ⟨w.heap.size, 0, none⟩) (by first | omega | (simp; done) | (simp; omega))]; go_simp; done); have hg_w1_0_0 : w1.frozen? ⟨w.heap.size, 0, none⟩ = false := (by rw [hb1.frozen (p := ⟨w.heap.size, 0, none⟩) (by first | omega | (simp; done) | (simp; omega))]; go_simp; done); have hk_w1_0_1 : w1.cell? ⟨w.heap.size, 1, none⟩ = some (.int .u64 (wd 1 a)) := (by rw [hb1.cell (p := ⟨w.heap.size, 1, none⟩) (by first | omega | (simp; done) | (simp; omega))]; go_simp; done); have hg_w1_0_1 : w1.frozen? ⟨w.heap.size, 1, none⟩ = false := (by rw [hb1.frozen (p := ⟨w.heap.size, 1, none⟩) (by first | omega | (simp; done) | (simp; omega))]; go_simp; done); have hk_w1_0_2 : w1.cell? ⟨w.heap.size, 2, none⟩ = some (.int .u64 (wd 2 a)) := (by rw [hb1.cell (p := ⟨w.heap.size, 2, none⟩) (by first | omega | (simp; done) | (simp; omega))]; go_simp; done); have hg_w1_0_2 : w1.frozen? ⟨w.heap.size, 2, none⟩ = false := (by rw [hb1.frozen (p := ⟨w.heap.size, 2, none⟩) (by first | omega | (simp; done) | (simp; omega))]; go_simp; done); have hk_w1_0_3 : w1.cell? ⟨w.heap.size, 3, none⟩ = some (.int .u64 (wd 3 a)) := (by rw [hb1.cell (p := ⟨w.heap.size, 3, none⟩) (by first | omega | (simp; done) | (simp; omega))]; go_simp; done); have hg_w1_0_3 : w1.frozen? ⟨w.heap.size, 3, none⟩ = false := (by rw [hb1.frozen (p := ⟨w.heap.size, 3, none⟩) (by first | omega | (simp; done) | (simp; omega))]; go_simp; done); have hk_w1_1_0 : w1.cell? ⟨w.heap.size + 1, 0, none⟩ = some (.int .u64 0) := (by rw [hb1.cell (p := ⟨w.heap.size + 1, 0, none⟩) (by first | omega | (simp; done) | (simp; omega))]; go_simp; done); have hg_w1_1_0 : w1.frozen? ⟨w.heap.size + 1, 0, none⟩ = false := (by rw [hb1.frozen (p := ⟨w.heap.size + 1, 0, none⟩) (by first | omega | (simp; done) | (simp; omega))]; go_simp; done); have hk_w1_1_1 : w1.cell? ⟨w.heap.size + 1, 1, none⟩ = some (.int .u64 0) := (by rw [hb1.cell (p := ⟨w.heap.size + 1, 1, none⟩) (by first | omega | (simp; done) | (simp; omega))]; go_simp; done); have hg_w1_1_1 : w1.frozen? ⟨w.heap.size + 1, 1, none⟩ = false := (by rw [hb1.frozen (p := ⟨w.heap.size + 1, 1, none⟩) (by first | omega | (simp; done) | (simp; omega))]; go_simp; done); have hk_w1_1_2 : w1.cell? ⟨w.heap.size + 1, 2, none⟩ = some (.int .u64 0) := (by rw [hb1.cell (p := ⟨w.heap.size + 1, 2, none⟩) (by first | omega | (simp; done) | (simp; omega))]; go_simp; done); have hg_w1_1_2 : w1.frozen? ⟨w.heap.size + 1, 2, none⟩ = false := (by rw [hb1.frozen (p := ⟨w.heap.size + 1, 2, none⟩) (by first | omega | (simp; done) | (simp; omega))]; go_simp; done); have hk_w1_1_3 : w1.cell? ⟨w.heap.size + 1, 3, none⟩ = some (.int .u64 0) := (by rw [hb1.cell (p := ⟨w.heap.size + 1, 3, none⟩) (by first | omega | (simp; done) | (simp; omega))]; go_simp; done); have hg_w1_1_3 : w1.frozen? ⟨w.heap.size + 1, 3, none⟩ = false := (by rw [hb1.frozen (p := ⟨w.heap.size + 1, 3, none⟩) (by first | omega | (simp; done) | (simp; omega))]; go_simp; done)
  go_wp2
  rw [rounds_succ]
  go_wp2_with fail
  refine (Div64_w _ _ _ (wd_u64 _ _) hd (dvR_lt _ _ hd0) _).mono ?_
  rintro e w2 ⟨rfl, hb2⟩; have hz_w2 := (hb2).size; (try simp at hz_w2); have hl_w2_0 : w.heap.size < w2.heap.size := (by omega); have hl_w2_1 : w.heap.size + 1 < w2.heap.size := (by omega); have hk_w2_0_0 : w2.cell? ⟨w.heap.size, 0, none⟩ = some (.int .u64 (wd 0 a)) := (by rw [hb2.cell (p := ⟨w.heap.size, 0, none⟩) (by first | omega | (simp; done) | (simp; omega))]; go_simp; done); have hg_w2_0_0 : w2.frozen? ⟨w.heap.size, 0, none⟩ = false := (by rw [hb2.frozen (p := ⟨w.heap.size, 0, none⟩) (by first | omega | (simp; done) | (simp; omega))]; go_simp; done); have hk_w2_0_1 : w2.cell? ⟨w.heap.size, 1, none⟩ = some (.int .u64 (wd 1 a)) := (by rw [hb2.cell (p := ⟨w.heap.size, 1, none⟩) (by first | omega | (simp; done) | (simp; omega))]; go_simp; done); have hg_w2_0_1 : w2.frozen? ⟨w.heap.size, 1, none⟩ = false := (by rw [hb2.frozen (p := ⟨w.heap.size, 1, none⟩) (by first | omega | (simp; done) | (simp; omega))]; go_simp; done); have hk_w2_0_2 : w2.cell? ⟨w.heap.size, 2, none⟩ = some (.int .u64 (wd 2 a)) := (by rw [hb2.cell (p := ⟨w.heap.size, 2, none⟩) (by first | omega | (simp; done) | (simp; omega))]; go_simp; done); have hg_w2_0_2 : w2.frozen? ⟨w.heap.size, 2, none⟩ = false := (by rw [hb2.frozen (p := ⟨w.heap.size, 2, none⟩) (by first | omega | (simp; done) | (simp; omega))]; go_simp; done); have hk_w2_0_3 : w2.cell? ⟨w.heap.size, 3, none⟩ = some (.int .u64 (dvQ 0 (wd 3 a) d)) := (by rw [hb2.cell (p := ⟨w.heap.size, 3, none⟩) (by first | omega | (simp; done) | (simp; omega))]; go_simp; done); have hg_w2_0_3 : w2.frozen? ⟨w.heap.size, 3, none⟩ = false := (by rw [hb2.frozen (p := ⟨w.heap.size, 3, none⟩) (by first | omega | (simp; done) | (simp; omega))]; go_simp; done); have hk_w2_1_0 : w2.cell? ⟨w.heap.size + 1, 0, none⟩ = some (.int .u64 0) := (by rw [hb2.cell (p := ⟨w.heap.size + 1, 0, none⟩) (by first | omega | (simp; done) | (simp; omega))]; go_simp; done); have hg_w2_1_0 : w2.frozen? ⟨w.heap.size + 1, 0, none⟩ = false := (by rw [hb2.frozen (p := ⟨w.heap.size + 1, 0, none⟩) (by first | omega | (simp; done) | (simp; omega))]; go_simp; done); have hk_w2_1_1 : w2.cell? ⟨w.heap.size + 1, 1, none⟩ = some (.int .u64 0) := (by rw [hb2.cell (p := ⟨w.heap.size + 1, 1, none⟩) (by first | omega | (simp; done) | (simp; omega))]; go_simp; done); have hg_w2_1_1 : w2.frozen? ⟨w.heap.size + 1, 1, none⟩ = false := (by rw [hb2.frozen (p := ⟨w.heap.size + 1, 1, none⟩) (by first | omega | (simp; done) | (simp; omega))]; go_simp; done); have hk_w2_1_2 : w2.cell? ⟨w.heap.size + 1, 2, none⟩ = some (.int .u64 0) := (by rw [hb2.cell (p := ⟨w.heap.size + 1, 2, none⟩) (by first | omega | (simp; done) | (simp; omega))]; go_simp; done); have hg_w2_1_2 : w2.frozen? ⟨w.heap.size + 1, 2, none⟩ = false := (by rw [hb2.frozen (p := ⟨w.heap.size + 1, 2, none⟩) (by first | omega | (simp; done) | (simp; omega))]; go_simp; done); have hk_w2_1_3 : w2.cell? ⟨w.heap.size + 1, 3, none⟩ = some (.int .u64 0) := (by rw [hb2.cell (p := ⟨w.heap.size + 1, 3, none⟩) (by first | omega | (simp; done) | (simp; omega))]; go_simp; done); have hg_w2_1_3 : w2.frozen? ⟨w.heap.size + 1, 3, none⟩ = false := (by rw [hb2.frozen (p := ⟨w.heap.size + 1, 3, none⟩) (by first | omega | (simp; done) | (simp; omega))]; go_simp; done)
  go_wp2
  rw [rounds_succ]
  go_wp2_with fail
  refine (Div64_w _ _ _ (wd_u64 _ _) hd (dvR_lt _ _ hd0) _).mono ?_
  rintro e w3 ⟨rfl, hb3⟩; have hz_w3 := (hb3).size; (try simp at hz_w3); have hl_w3_0 : w.heap.size < w3.heap.size := (by omega); have hl_w3_1 : w.heap.size + 1 < w3.heap.size := (by omega); have hk_w3_0_0 : w3.cell? ⟨w.heap.size, 0, none⟩ = some (.int .u64 (wd 0 a)) := (by rw [hb3.cell (p := ⟨w.heap.size, 0, none⟩) (by first | omega | (simp; done) | (simp; omega))]; go_simp; done); have hg_w3_0_0 : w3.frozen? ⟨w.heap.size, 0, none⟩ = false := (by rw [hb3.frozen (p := ⟨w.heap.size, 0, none⟩) (by first | omega | (simp; done) | (simp; omega))]; go_simp; done); have hk_w3_0_1 : w3.cell? ⟨w.heap.size, 1, none⟩ = some (.int .u64 (wd 1 a)) := (by rw [hb3.cell (p := ⟨w.heap.size, 1, none⟩) (by first | omega | (simp; done) | (simp; omega))]; go_simp; done); have hg_w3_0_1 : w3.frozen? ⟨w.heap.size, 1, none⟩ = false := (by rw [hb3.frozen (p := ⟨w.heap.size, 1, none⟩) (by first | omega | (simp; done) | (simp; omega))]; go_simp; done); have hk_w3_0_2 : w3.cell? ⟨w.heap.size, 2, none⟩ = some (.int .u64 (dvQ (dvR 0 (wd 3 a) d) (wd 2 a) d)) := (by rw [hb3.cell (p := ⟨w.heap.size, 2, none⟩) (by first | omega | (simp; done) | (simp; omega))]; go_simp; done); have hg_w3_0_2 : w3.frozen? ⟨w.heap.size, 2, none⟩ = false := (by rw [hb3.frozen (p := ⟨w.heap.size, 2, none⟩) (by first | omega | (simp; done) | (simp; omega))]; go_simp; done); have hk_w3_0_3 : w3.cell? ⟨w.heap.size, 3, none⟩ = some (.int .u64 (dvQ 0 (wd 3 a) d)) := (by rw [hb3.cell (p := ⟨w.heap.size, 3, none⟩) (by first | omega | (simp; done) | (simp; omega))]; go_simp; done); have hg_w3_0_3 : w3.frozen? ⟨w.heap.size, 3, none⟩ = false := (by rw [hb3.frozen (p := ⟨w.heap.size, 3, none⟩) (by first | omega | (simp; done) | (simp; omega))]; go_simp; done); have hk_w3_1_0 : w3.cell? ⟨w.heap.size + 1, 0, none⟩ = some (.int .u64 0) := (by rw [hb3.cell (p := ⟨w.heap.size + 1, 0, none⟩) (by first | omega | (simp; done) | (simp; omega))]; go_simp; done); have hg_w3_1_0 : w3.frozen? ⟨w.heap.size + 1, 0, none⟩ = false := (by rw [hb3.frozen (p := ⟨w.heap.size + 1, 0, none⟩) (by first | omega | (simp; done) | (simp; omega))]; go_simp; done); have hk_w3_1_1 : w3.cell? ⟨w.heap.size + 1, 1, none⟩ = some (.int .u64 0) := (by rw [hb3.cell (p := ⟨w.heap.size + 1, 1, none⟩) (by first | omega | (simp; done) | (simp; omega))]; go_simp; done); have hg_w3_1_1 : w3.frozen? ⟨w.heap.size + 1, 1, none⟩ = false := (by rw [hb3.frozen (p := ⟨w.heap.size + 1, 1, none⟩) (by first | omega | (simp; done) | (simp; omega))]; go_simp; done); have hk_w3_1_2 : w3.cell? ⟨w.heap.size + 1, 2, none⟩ = some (.int .u64 0) := (by rw [hb3.cell (p := ⟨w.heap.size + 1, 2, none⟩) (by first | omega | (simp; done) | (simp; omega))]; go_simp; done); have hg_w3_1_2 : w3.frozen? ⟨w.heap.size + 1, 2, none⟩ = false := (by rw [hb3.frozen (p := ⟨w.heap.size + 1, 2, none⟩) (by first | omega | (simp; done) | (simp; omega))]; go_simp; done); have hk_w3_1_3 : w3.cell? ⟨w.heap.size + 1, 3, none⟩ = some (.int .u64 0) := (by rw [hb3.cell (p := ⟨w.heap.size + 1, 3, none⟩) (by first | omega | (simp; done) | (simp; omega))]; go_simp; done); have hg_w3_1_3 : w3.frozen? ⟨w.heap.size + 1, 3, none⟩ = false := (by rw [hb3.frozen (p := ⟨w.heap.size + 1, 3, none⟩) (by first | omega | (simp; done) | (simp; omega))]; go_simp; done)
  go_wp2
  rw [rounds_succ]
  go_wp2_with fail
  refine (Div64_w _ _ _ (wd_u64 _ _) hd (dvR_lt _ _ hd0) _).mono ?_
  rintro e w4 ⟨rfl, hb4⟩; have hz_w4 := (hb4).size; (try simp at hz_w4); have hl_w4_0 : w.heap.size < w4.heap.size := (by omega); have hl_w4_1 : w.heap.size + 1 < w4.heap.size := (by omega); have hk_w4_0_0 : w4.cell? ⟨w.heap.size, 0, none⟩ = some (.int .u64 (wd 0 a)) := (by rw [hb4.cell (p := ⟨w.heap.size, 0, none⟩) (by first | omega | (simp; done) | (simp; omega))]; go_simp; done); have hg_w4_0_0 : w4.frozen? ⟨w.heap.size, 0, none⟩ = false := (by rw [hb4.frozen (p := ⟨w.heap.size, 0, none⟩) (by first | omega | (simp; done) | (simp; omega))]; go_simp; done); have hk_w4_0_1 : w4.cell? ⟨w.heap.size, 1, none⟩ = some (.int .u64 (dvQ (dvR (dvR 0 (wd 3 a) d) (wd 2 a) d) (wd 1 a) d)) := (by rw [hb4.cell (p := ⟨w.heap.size, 1, none⟩) (by first | omega | (simp; done) | (simp; omega))]; go_simp; done); have hg_w4_0_1 : w4.frozen? ⟨w.heap.size, 1, none⟩ = false := (by rw [hb4.frozen (p := ⟨w.heap.size, 1, none⟩) (by first | omega | (simp; done) | (simp; omega))]; go_simp; done); have hk_w4_0_2 : w4.cell? ⟨w.heap.size, 2, none⟩ = some (.int .u64 (dvQ (dvR 0 (wd 3 a) d) (wd 2 a) d)) := (by rw [hb4.cell (p := ⟨w.heap.size, 2, none⟩) (by first | omega | (simp; done) | (simp; omega))]; go_simp; done); have hg_w4_0_2 : w4.frozen? ⟨w.heap.size, 2, none⟩ = false := (by rw [hb4.frozen (p := ⟨w.heap.size, 2, none⟩) (by first | omega | (simp; done) | (simp; omega))]; go_simp; done); have hk_w4_0_3 : w4.cell? ⟨w.heap.size, 3, none⟩ = some (.int .u64 (dvQ 0 (wd 3 a) d)) := (by rw [hb4.cell (p := ⟨w.heap.size, 3, none⟩) (by first | omega | (simp; done) | (simp; omega))]; go_simp; done); have hg_w4_0_3 : w4.frozen? ⟨w.heap.size, 3, none⟩ = false := (by rw [hb4.frozen (p := ⟨w.heap.size, 3, none⟩) (by first | omega | (simp; done) | (simp; omega))]; go_simp; done); have hk_w4_1_0 : w4.cell? ⟨w.heap.size + 1, 0, none⟩ = some (.int .u64 0) := (by rw [hb4.cell (p := ⟨w.heap.size + 1, 0, none⟩) (by first | omega | (simp; done) | (simp; omega))]; go_simp; done); have hg_w4_1_0 : w4.frozen? ⟨w.heap.size + 1, 0, none⟩ = false := (by rw [hb4.frozen (p := ⟨w.heap.size + 1, 0, none⟩) (by first | omega | (simp; done) | (simp; omega))]; go_simp; done); have hk_w4_1_1 : w4.cell? ⟨w.heap.size + 1, 1, none⟩ = some (.int .u64 0) := (by rw [hb4.cell (p := ⟨w.heap.size + 1, 1, none⟩) (by first | omega | (simp; done) | (simp; omega))]; go_simp; done); have hg_w4_1_1 : w4.frozen? ⟨w.heap.size + 1, 1, none⟩ = false := (by rw [hb4.frozen (p := ⟨w.heap.size + 1, 1, none⟩) (by first | omega | (simp; done) | (simp; omega))]; go_simp; done); have hk_w4_1_2 : w4.cell? ⟨w.heap.size + 1, 2, none⟩ = some (.int .u64 0) := (by rw [hb4.cell (p := ⟨w.heap.size + 1, 2, none⟩) (by first | omega | (simp; done) | (simp; omega))]; go_simp; done); have hg_w4_1_2 : w4.frozen? ⟨w.heap.size + 1, 2, none⟩ = false := (by rw [hb4.frozen (p := ⟨w.heap.size + 1, 2, none⟩) (by first | omega | (simp; done) | (simp; omega))]; go_simp; done); have hk_w4_1_3 : w4.cell? ⟨w.heap.size + 1, 3, none⟩ = some (.int .u64 0) := (by rw [hb4.cell (p := ⟨w.heap.size + 1, 3, none⟩) (by first | omega | (simp; done) | (simp; omega))]; go_simp; done); have hg_w4_1_3 : w4.frozen? ⟨w.heap.size + 1, 3, none⟩ = false := (by rw [hb4.frozen (p := ⟨w.heap.size + 1, 3, none⟩) (by first | omega | (simp; done) | (simp; omega))]; go_simp; done)
  go_wp2
  rw [rounds_succ]
  go_wp2
  refine bodyPost_ret (v := .tuple #[.agg #[_, _, _, _], .bool _]) (by simp [results, Tryd.results47, go_sem, *]) rfl ⟨rfl, ?_⟩
  repeat' (first | with_reducible exact Below.refl _ _ | with_reducible assumption | with_reducible refine Below.drew ?_ | with_reducible refine bdrewN ?_ _ | with_reducible refine Below.alloc ?_ ?_ _ | with_reducible refine Below.setCell ?_ ?_ _ | with_reducible refine Below.trans ?_ (Below.mono (by assumption) ?_) | omega | (simp; done) | (simp; omega))
end Go.Proofs.YtldmbneckcjonabDoor
