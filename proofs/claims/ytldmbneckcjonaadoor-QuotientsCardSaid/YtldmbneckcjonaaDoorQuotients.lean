/- Several texts in one: soft.div, whole. · softfloatref.division. · softfloatref.division, whole; the law Quotients. · Quotients: for every script the law returns true and leaves its argument as it was. Condition: the table of operations is as the program's text lays it, which the card's tie shows. -/
import Derived.Test.YtldmbneckcjonaaDoorGQ
import Derived.Test.YtldmbneckcjonaaDoorGM
import Derived.Test.YtldmbneckcjonaaDoorGB
import Derived.Test.YtldmbneckcjonaaDoorGH
import Derived.Test.YtldmbneckcjonaaDoorGI
import Derived.Test.YtldmbneckcjonaaDoorProducts
import Derived.Test.YtldmbneckcjonaaDoorGJ
import Derived.Test.YtldmbneckcjonaaDoorCards
set_option linter.unusedVariables false
set_option linter.unusedSimpArgs false
namespace Go.Proofs.YtldmbneckcjonaaDoor
open Go.RowKit
theorem sigU_shl (a : Nat) : U256 (sigU a * 2 ^ 150) := by
  have h1 := sigU_lt a
  unfold U256
  exact Nat.lt_of_lt_of_le (Nat.mul_lt_mul_of_pos_right h1 (Nat.two_pow_pos 150)) (by decide)
theorem shl_sig (a : Nat) (W : World) : Calls Tryd.prog 145 #[W4 (sigU a), .int .i64 150] W fun e w' => e = .returned (W4 (sigU a * 2 ^ 150)) ∧ Below W.heap.size W w' := by
  have hu := sigU_shl a
  have h0 : U256 (sigU a) := by have := sigU_u256 a a; exact Nat.lt_of_le_of_lt (Nat.le_mul_of_pos_right _ (Nat.two_pow_pos 150)) hu
  have := Shl_any (sigU a) h0 150 (by decide) (by decide) W
  rw [shlN_def, show (150 : Int).toNat = 150 from rfl, Nat.mod_eq_of_lt hu.out] at this
  exact this
theorem wrap64_of {x : Int} (h1 : -1000000 ≤ x) (h2 : x ≤ 1000000) : wrap64 x = x := by unfold wrap64; omega
theorem div_any (op m a b c : Nat) (hm : m < 5) (ua : U64 a) (ub : U64 b) (ka : kindN a < 4) (kb : kindN b < 4) (w : World) : Calls Tryd.prog 133 #[REC op m a b c] w (SoftOut (divS m a b).1 (divS m a b).2 false w) := by
  have Ka := Lib.hid (fun W => kindOf_any a W)
  have Kb := Lib.hid (fun W => kindOf_any b W)
  have hx := xor_sign ua ub
  have hor := or_sign (negU a != negU b) 9218868437227405312 (by omega)
  have za := kind_zero (x := a)
  have zb := kind_zero (x := b)
  by_cases h1 : kindN a = 3 ∧ kindN b = 3
  · have e : divS m a b = (9221120237041090560, 16) := by unfold divS; rw [if_pos (.inl h1)]
    rw [e]; rw [h1.1] at Ka; rw [h1.2] at Kb
    exact div_bad1 op m a b c Ka Kb _ hx w
  · by_cases h2 : kindN a = 0 ∧ kindN b = 0
    · have e : divS m a b = (9221120237041090560, 16) := by unfold divS; rw [if_pos (.inr h2)]
      rw [e]; rw [h2.1] at Ka; rw [h2.2] at Kb
      exact div_bad2 op m a b c Ka Kb _ hx w
    · have e0 : divS m a b = if kindN a = 3 then (signN (negU a != negU b) + 9218868437227405312, 0)
          else if kindN b = 3 ∨ kindN a = 0 then (signN (negU a != negU b), 0)
          else if kindN b = 0 then (signN (negU a != negU b) + 9218868437227405312, 8)
          else roundS m (negU a != negU b) (mk2 (exN a * 2 ^ 120 / exN b) (decide (exN a * 2 ^ 120 % exN b = 0))) false (exE a - 120 - exE b - 1) := by unfold divS; rw [if_neg (by omega)]
      rw [e0]
      by_cases h3 : kindN a = 3
      · rw [if_pos h3]
        rw [h3] at Ka
        exact div_inf op m a b c _ Ka Kb _ hx _ hor (nef (n := 3) (by omega)) w
      · rw [if_neg h3]
        by_cases h4 : kindN b = 3
        · rw [if_pos (.inl h4)]
          rw [h4] at Kb
          exact div_z1 op m a b c _ Ka Kb _ hx (nef (n := 3) h3) w
        · by_cases h5 : kindN a = 0
          · rw [if_pos (.inr h5)]
            rw [h5] at Ka
            exact div_z2 op m a b c _ Ka Kb _ hx (nef (n := 3) h4) (nef (n := 0) (by omega)) w
          · rw [if_neg (by omega)]
            by_cases h6 : kindN b = 0
            · rw [if_pos h6]
              rw [h6] at Kb
              exact div_dz op m a b c _ Ka Kb _ hx _ hor (nef (n := 3) h3) (nef (n := 0) h5) w
            · rw [if_neg h6]
              have ha : exN a ≠ 0 := by omega
              have hb : exN b ≠ 0 := by omega
              rw [← div_same ha hb]
              have hsa : sigU a ≠ 0 := by rw [Ne, sigU_zero]; exact ha
              have hsb : sigU b ≠ 0 := by rw [Ne, sigU_zero]; exact hb
              have b1 := expU_bounds a
              have b2 := expU_bounds b
              have hq : sigU a * 2 ^ 150 / sigU b ≠ 0 := by
                have h1 := sigU_lt b
                have h2 : sigU b ≤ sigU a * 2 ^ 150 := Nat.le_trans (by omega : sigU b ≤ 2 ^ 150) (Nat.le_mul_of_pos_left _ (by omega))
                have := Nat.div_pos h2 (by omega)
                omega
              have hqu : U256 (sigU a * 2 ^ 150 / sigU b) := Nat.lt_of_le_of_lt (Nat.div_le_self _ _) (sigU_shl a).out
              have hub : U64 (sigU b) := by have := sigU_lt b; unfold U64; omega
              exact div_go op m a b c _ _ Ka Kb _ hx _ _ _ _ _ _ _ _ _ _ _ _ _ (fun W => unpack_any a ua W) (fun W => unpack_any b ub W) (fun W => shl_sig a W) (fun W => by rw [wd_sig]; exact Div_any _ _ (sigU_shl a) hub (by omega) W) rfl (wrap64_of (by omega) (by omega)) (wrap64_of (by omega) (by omega)) (fun W => round_any _ _ _ _ m hqu hq hm (by omega) (by omega) W) (nef (n := 0) h5) (nef (n := 3) h3) (nef (n := 0) h6) (nef (n := 3) h4) w
end Go.Proofs.YtldmbneckcjonaaDoor
namespace Go.Proofs.YtldmbneckcjonaaDoor
open Go.RowKit
set_option maxRecDepth 100000 in
set_option maxHeartbeats 1000000 in
theorem rdiv_bad1 (m a b : Nat) (Ka : Hid (∀ W, Calls Tryd.prog 43 #[.int .u64 a] W fun e w' => e = .returned (.int .i64 3) ∧ W = w')) (Kb : Hid (∀ W, Calls Tryd.prog 43 #[.int .u64 b] W fun e w' => e = .returned (.int .i64 3) ∧ W = w')) (sg : Nat) (hx : bits .and .u64 (bits .xor .u64 (a : Int) (b : Int)) 9223372036854775808 = sg) (w : World) :
    Calls Tryd.prog 48 #[.int .u64 a, .int .u64 b, .int .i64 m] w (RefOutB 9221120237041090560 16 false w) := by
  go_enter Tryd.func48, Tryd.ntmps48
  go_wp2_with (first | (go_at_call_of 43 (Value.int IntKind.u64 a); refine (Ka.out _).mono ?_; rintro e w' ⟨rfl, rfl⟩) | (go_at_call_of 43 (Value.int IntKind.u64 b); refine (Kb.out _).mono ?_; rintro e w' ⟨rfl, rfl⟩))
  all_goals refine bodyPost_ret (v := RV 9221120237041090560 16 false) (by simp [results, Tryd.results48, go_sem, *]) rfl ⟨rfl, ?_⟩
  repeat' (first | with_reducible exact Below.refl _ _ | with_reducible assumption | with_reducible refine Below.drew ?_ | with_reducible refine bdrewN ?_ _ | with_reducible refine Below.alloc ?_ ?_ _ | with_reducible refine Below.setCell ?_ ?_ _ | with_reducible refine Below.trans ?_ (Below.mono (by assumption) ?_) | omega | (simp; done) | (simp; omega))
set_option maxRecDepth 100000 in
set_option maxHeartbeats 1000000 in
theorem rdiv_bad2 (m a b : Nat) (Ka : Hid (∀ W, Calls Tryd.prog 43 #[.int .u64 a] W fun e w' => e = .returned (.int .i64 0) ∧ W = w')) (Kb : Hid (∀ W, Calls Tryd.prog 43 #[.int .u64 b] W fun e w' => e = .returned (.int .i64 0) ∧ W = w')) (sg : Nat) (hx : bits .and .u64 (bits .xor .u64 (a : Int) (b : Int)) 9223372036854775808 = sg) (w : World) :
    Calls Tryd.prog 48 #[.int .u64 a, .int .u64 b, .int .i64 m] w (RefOutB 9221120237041090560 16 false w) := by
  go_enter Tryd.func48, Tryd.ntmps48
  go_wp2_with (first | (go_at_call_of 43 (Value.int IntKind.u64 a); refine (Ka.out _).mono ?_; rintro e w' ⟨rfl, rfl⟩) | (go_at_call_of 43 (Value.int IntKind.u64 b); refine (Kb.out _).mono ?_; rintro e w' ⟨rfl, rfl⟩))
  all_goals refine bodyPost_ret (v := RV 9221120237041090560 16 false) (by simp [results, Tryd.results48, go_sem, *]) rfl ⟨rfl, ?_⟩
  repeat' (first | with_reducible exact Below.refl _ _ | with_reducible assumption | with_reducible refine Below.drew ?_ | with_reducible refine bdrewN ?_ _ | with_reducible refine Below.alloc ?_ ?_ _ | with_reducible refine Below.setCell ?_ ?_ _ | with_reducible refine Below.trans ?_ (Below.mono (by assumption) ?_) | omega | (simp; done) | (simp; omega))
set_option maxRecDepth 100000 in
set_option maxHeartbeats 1000000 in
theorem rdiv_inf (m a b kb : Nat) (Ka : Hid (∀ W, Calls Tryd.prog 43 #[.int .u64 a] W fun e w' => e = .returned (.int .i64 3) ∧ W = w')) (Kb : Hid (∀ W, Calls Tryd.prog 43 #[.int .u64 b] W fun e w' => e = .returned (.int .i64 (kb : Int)) ∧ W = w')) (sg : Nat) (hx : bits .and .u64 (bits .xor .u64 (a : Int) (b : Int)) 9223372036854775808 = sg) (bi : Nat) (hi : IntKind.u64.wrap ((sg : Int) + 9218868437227405312) = bi) (hkb3 : ((kb : Int) == 3) = false) (w : World) :
    Calls Tryd.prog 48 #[.int .u64 a, .int .u64 b, .int .i64 m] w (RefOutB bi 0 false w) := by
  go_enter Tryd.func48, Tryd.ntmps48
  go_wp2_with (first | (go_at_call_of 43 (Value.int IntKind.u64 a); refine (Ka.out _).mono ?_; rintro e w' ⟨rfl, rfl⟩) | (go_at_call_of 43 (Value.int IntKind.u64 b); refine (Kb.out _).mono ?_; rintro e w' ⟨rfl, rfl⟩))
  all_goals refine bodyPost_ret (v := RV bi 0 false) (by simp [results, Tryd.results48, go_sem, *]) rfl ⟨rfl, ?_⟩
  repeat' (first | with_reducible exact Below.refl _ _ | with_reducible assumption | with_reducible refine Below.drew ?_ | with_reducible refine bdrewN ?_ _ | with_reducible refine Below.alloc ?_ ?_ _ | with_reducible refine Below.setCell ?_ ?_ _ | with_reducible refine Below.trans ?_ (Below.mono (by assumption) ?_) | omega | (simp; done) | (simp; omega))
set_option maxRecDepth 100000 in
set_option maxHeartbeats 1000000 in
theorem rdiv_z1 (m a b ka : Nat) (Ka : Hid (∀ W, Calls Tryd.prog 43 #[.int .u64 a] W fun e w' => e = .returned (.int .i64 (ka : Int)) ∧ W = w')) (Kb : Hid (∀ W, Calls Tryd.prog 43 #[.int .u64 b] W fun e w' => e = .returned (.int .i64 3) ∧ W = w')) (sg : Nat) (hx : bits .and .u64 (bits .xor .u64 (a : Int) (b : Int)) 9223372036854775808 = sg) (hka3 : ((ka : Int) == 3) = false) (w : World) :
    Calls Tryd.prog 48 #[.int .u64 a, .int .u64 b, .int .i64 m] w (RefOutB sg 0 false w) := by
  go_enter Tryd.func48, Tryd.ntmps48
  go_wp2_with (first | (go_at_call_of 43 (Value.int IntKind.u64 a); refine (Ka.out _).mono ?_; rintro e w' ⟨rfl, rfl⟩) | (go_at_call_of 43 (Value.int IntKind.u64 b); refine (Kb.out _).mono ?_; rintro e w' ⟨rfl, rfl⟩))
  all_goals refine bodyPost_ret (v := RV sg 0 false) (by simp [results, Tryd.results48, go_sem, *]) rfl ⟨rfl, ?_⟩
  repeat' (first | with_reducible exact Below.refl _ _ | with_reducible assumption | with_reducible refine Below.drew ?_ | with_reducible refine bdrewN ?_ _ | with_reducible refine Below.alloc ?_ ?_ _ | with_reducible refine Below.setCell ?_ ?_ _ | with_reducible refine Below.trans ?_ (Below.mono (by assumption) ?_) | omega | (simp; done) | (simp; omega))
set_option maxRecDepth 100000 in
set_option maxHeartbeats 1000000 in
theorem rdiv_z2 (m a b kb : Nat) (Ka : Hid (∀ W, Calls Tryd.prog 43 #[.int .u64 a] W fun e w' => e = .returned (.int .i64 0) ∧ W = w')) (Kb : Hid (∀ W, Calls Tryd.prog 43 #[.int .u64 b] W fun e w' => e = .returned (.int .i64 (kb : Int)) ∧ W = w')) (sg : Nat) (hx : bits .and .u64 (bits .xor .u64 (a : Int) (b : Int)) 9223372036854775808 = sg) (hkb3 : ((kb : Int) == 3) = false) (hkb0 : ((kb : Int) == 0) = false) (w : World) :
    Calls Tryd.prog 48 #[.int .u64 a, .int .u64 b, .int .i64 m] w (RefOutB sg 0 false w) := by
  go_enter Tryd.func48, Tryd.ntmps48
  go_wp2_with (first | (go_at_call_of 43 (Value.int IntKind.u64 a); refine (Ka.out _).mono ?_; rintro e w' ⟨rfl, rfl⟩) | (go_at_call_of 43 (Value.int IntKind.u64 b); refine (Kb.out _).mono ?_; rintro e w' ⟨rfl, rfl⟩))
  all_goals refine bodyPost_ret (v := RV sg 0 false) (by simp [results, Tryd.results48, go_sem, *]) rfl ⟨rfl, ?_⟩
  repeat' (first | with_reducible exact Below.refl _ _ | with_reducible assumption | with_reducible refine Below.drew ?_ | with_reducible refine bdrewN ?_ _ | with_reducible refine Below.alloc ?_ ?_ _ | with_reducible refine Below.setCell ?_ ?_ _ | with_reducible refine Below.trans ?_ (Below.mono (by assumption) ?_) | omega | (simp; done) | (simp; omega))
set_option maxRecDepth 100000 in
set_option maxHeartbeats 1000000 in
theorem rdiv_dz (m a b ka : Nat) (Ka : Hid (∀ W, Calls Tryd.prog 43 #[.int .u64 a] W fun e w' => e = .returned (.int .i64 (ka : Int)) ∧ W = w')) (Kb : Hid (∀ W, Calls Tryd.prog 43 #[.int .u64 b] W fun e w' => e = .returned (.int .i64 0) ∧ W = w')) (sg : Nat) (hx : bits .and .u64 (bits .xor .u64 (a : Int) (b : Int)) 9223372036854775808 = sg) (bi : Nat) (hi : IntKind.u64.wrap ((sg : Int) + 9218868437227405312) = bi) (hka3 : ((ka : Int) == 3) = false) (hka0 : ((ka : Int) == 0) = false) (w : World) :
    Calls Tryd.prog 48 #[.int .u64 a, .int .u64 b, .int .i64 m] w (RefOutB bi 8 false w) := by
  go_enter Tryd.func48, Tryd.ntmps48
  go_wp2_with (first | (go_at_call_of 43 (Value.int IntKind.u64 a); refine (Ka.out _).mono ?_; rintro e w' ⟨rfl, rfl⟩) | (go_at_call_of 43 (Value.int IntKind.u64 b); refine (Kb.out _).mono ?_; rintro e w' ⟨rfl, rfl⟩))
  all_goals refine bodyPost_ret (v := RV bi 8 false) (by simp [results, Tryd.results48, go_sem, *]) rfl ⟨rfl, ?_⟩
  repeat' (first | with_reducible exact Below.refl _ _ | with_reducible assumption | with_reducible refine Below.drew ?_ | with_reducible refine bdrewN ?_ _ | with_reducible refine Below.alloc ?_ ?_ _ | with_reducible refine Below.setCell ?_ ?_ _ | with_reducible refine Below.trans ?_ (Below.mono (by assumption) ?_) | omega | (simp; done) | (simp; omega))
set_option maxRecDepth 100000 in
set_option maxHeartbeats 1000000 in
theorem rdiv_go (m a b ka kb : Nat) (Ka : Hid (∀ W, Calls Tryd.prog 43 #[.int .u64 a] W fun e w' => e = .returned (.int .i64 (ka : Int)) ∧ W = w')) (Kb : Hid (∀ W, Calls Tryd.prog 43 #[.int .u64 b] W fun e w' => e = .returned (.int .i64 (kb : Int)) ∧ W = w')) (sg : Nat) (hx : bits .and .u64 (bits .xor .u64 (a : Int) (b : Int)) 9223372036854775808 = sg) (na nb ng : Bool) (Na Nb N bt fl : Nat) (ea eb eg : Int) (Ea : Hid (∀ W, Calls Tryd.prog 64 #[.int .u64 a] W (NumOut na Na ea W))) (Eb : Hid (∀ W, Calls Tryd.prog 64 #[.int .u64 b] W (NumOut nb Nb eb W))) (P : Hid (∀ W A B ca cb, IsL W A (nd Na) Na → IsL W B (nd Nb) Nb → Calls Tryd.prog 67 #[NumV na A Na ca ea, NumV nb B Nb cb eb] W (NumOut ng N eg W))) (F : Hid (∀ W A c, IsL W A (nd N) N → Calls Tryd.prog 65 #[NumV ng A N c eg, .int .i64 m] W (RefOutB bt fl false W))) (hka0 : ((ka : Int) == 0) = false) (hka3 : ((ka : Int) == 3) = false) (hkb0 : ((kb : Int) == 0) = false) (hkb3 : ((kb : Int) == 3) = false) (w : World) :
    Calls Tryd.prog 48 #[.int .u64 a, .int .u64 b, .int .i64 m] w (RefOutB bt fl false w) := by
  go_enter Tryd.func48, Tryd.ntmps48
  go_wp2_with (first | (go_at_call_of 43 (Value.int IntKind.u64 a); refine (Ka.out _).mono ?_; rintro e w' ⟨rfl, rfl⟩) | (go_at_call_of 43 (Value.int IntKind.u64 b); refine (Kb.out _).mono ?_; rintro e w' ⟨rfl, rfl⟩))
  refine (Ea.out _).mono ?_
  rintro e w1 ⟨A1, c1, rfl, n1_, m1_, i1, hb1⟩
  go_wp2_with fail
  refine (Eb.out _).mono ?_
  rintro e w2 ⟨A2, c2, rfl, n2_, m2_, i2, hb2⟩
  replace i1 := i1.below (Nat.le_refl _) hb2
  go_wp2_with fail
  refine (P.out _ _ _ _ _ i1 i2).mono ?_
  rintro e w3 ⟨A3, c3, rfl, n3_, m3_, i3, hb3⟩
  clear i1 i2
  go_wp2_with fail
  refine (F.out _ _ _ i3).mono ?_
  rintro e w4 ⟨rfl, hb4⟩
  have hz1 := hb1.size
  simp at hz1
  have hz2 := hb2.size
  have hz3 := hb3.size
  have hBW := ((hb1.trans (hb2.mono hb1.size)).trans (hb3.mono (Nat.le_trans hb1.size hb2.size))).trans (hb4.mono (Nat.le_trans hb1.size (Nat.le_trans hb2.size hb3.size)))
  have hk_w4_0_0 : w4.cell? ⟨w.heap.size, 0, none⟩ = some (.int .u64 0) := (by rw [hBW.cell (p := ⟨w.heap.size, 0, none⟩) (by first | omega | (simp; done) | (simp; omega))]; go_simp; done)
  have hg_w4_0_0 : w4.frozen? ⟨w.heap.size, 0, none⟩ = false := (by rw [hBW.frozen (p := ⟨w.heap.size, 0, none⟩) (by first | omega | (simp; done) | (simp; omega))]; go_simp; done)
  have hk_w4_0_1 : w4.cell? ⟨w.heap.size, 1, none⟩ = some (.int .i64 0) := (by rw [hBW.cell (p := ⟨w.heap.size, 1, none⟩) (by first | omega | (simp; done) | (simp; omega))]; go_simp; done)
  have hg_w4_0_1 : w4.frozen? ⟨w.heap.size, 1, none⟩ = false := (by rw [hBW.frozen (p := ⟨w.heap.size, 1, none⟩) (by first | omega | (simp; done) | (simp; omega))]; go_simp; done)
  have hk_w4_0_2 : w4.cell? ⟨w.heap.size, 2, none⟩ = some (.bool false) := (by rw [hBW.cell (p := ⟨w.heap.size, 2, none⟩) (by first | omega | (simp; done) | (simp; omega))]; go_simp; done)
  have hg_w4_0_2 : w4.frozen? ⟨w.heap.size, 2, none⟩ = false := (by rw [hBW.frozen (p := ⟨w.heap.size, 2, none⟩) (by first | omega | (simp; done) | (simp; omega))]; go_simp; done)
  go_wp2_with fail
  all_goals refine bodyPost_ret (v := RV bt fl false) (by simp [results, Tryd.results48, go_sem, *]) rfl ⟨rfl, ?_⟩
  repeat' (first | with_reducible exact Below.refl _ _ | with_reducible assumption | with_reducible refine Below.drew ?_ | with_reducible refine bdrewN ?_ _ | with_reducible refine Below.alloc ?_ ?_ _ | with_reducible refine Below.setCell ?_ ?_ _ | with_reducible refine Below.trans ?_ (Below.mono (by assumption) ?_) | omega | (simp; done) | (simp; omega))
end Go.Proofs.YtldmbneckcjonaaDoor
namespace Go.Proofs.YtldmbneckcjonaaDoor
open Go.RowKit
theorem bl_mk2 (q : Nat) (wh : Bool) : bl (mk2 q wh) ≤ bl q + 3 := by
  unfold mk2
  have h1 := bl_mono (show q * 2 + (if wh then 0 else 1) ≤ q * 2 ^ 2 + 3 by split <;> omega)
  have h2 : bl (q * 2 ^ 2 + 3) ≤ bl q + 3 := by
    rw [bl_le]
    have := lt_two_bl q
    have e : 2 ^ (bl q + 3) = 2 ^ bl q * 8 := by rw [Nat.pow_add]
    rw [e]; omega
  omega
theorem rdiv_any (m a b : Nat) (hm : m < 5) (ua : U64 a) (ub : U64 b) (ka : kindN a < 4) (kb : kindN b < 4) (w : World) : Calls Tryd.prog 48 #[.int .u64 a, .int .u64 b, .int .i64 m] w (RefOutB (divS m a b).1 (divS m a b).2 false w) := by
  have Ka := Lib.hid (fun W => kind_any a ua W)
  have Kb := Lib.hid (fun W => kind_any b ub W)
  have hx := xor_sign ua ub
  have hor := wrap_sg (g := negU a != negU b) (x := 9218868437227405312) (by omega)
  have za := kind_zero (x := a)
  have zb := kind_zero (x := b)
  by_cases h1 : kindN a = 3 ∧ kindN b = 3
  · have e : divS m a b = (9221120237041090560, 16) := by unfold divS; rw [if_pos (.inl h1)]
    rw [e]; rw [h1.1] at Ka; rw [h1.2] at Kb
    exact rdiv_bad1 m a b Ka Kb _ hx w
  · by_cases h2 : kindN a = 0 ∧ kindN b = 0
    · have e : divS m a b = (9221120237041090560, 16) := by unfold divS; rw [if_pos (.inr h2)]
      rw [e]; rw [h2.1] at Ka; rw [h2.2] at Kb
      exact rdiv_bad2 m a b Ka Kb _ hx w
    · have e0 : divS m a b = if kindN a = 3 then (signN (negU a != negU b) + 9218868437227405312, 0)
          else if kindN b = 3 ∨ kindN a = 0 then (signN (negU a != negU b), 0)
          else if kindN b = 0 then (signN (negU a != negU b) + 9218868437227405312, 8)
          else roundS m (negU a != negU b) (mk2 (exN a * 2 ^ 120 / exN b) (decide (exN a * 2 ^ 120 % exN b = 0))) false (exE a - 120 - exE b - 1) := by unfold divS; rw [if_neg (by omega)]
      rw [e0]
      by_cases h3 : kindN a = 3
      · rw [if_pos h3]
        rw [h3] at Ka
        exact rdiv_inf m a b _ Ka Kb _ hx _ hor (nef (n := 3) (by omega)) w
      · rw [if_neg h3]
        by_cases h4 : kindN b = 3
        · rw [if_pos (.inl h4)]
          rw [h4] at Kb
          exact rdiv_z1 m a b _ Ka Kb _ hx (nef (n := 3) h3) w
        · by_cases h5 : kindN a = 0
          · rw [if_pos (.inr h5)]
            rw [h5] at Ka
            exact rdiv_z2 m a b _ Ka Kb _ hx (nef (n := 3) h4) (nef (n := 0) (by omega)) w
          · rw [if_neg (by omega)]
            by_cases h6 : kindN b = 0
            · rw [if_pos h6]
              rw [h6] at Kb
              exact rdiv_dz m a b _ Ka Kb _ hx _ hor (nef (n := 3) h3) (nef (n := 0) h5) w
            · rw [if_neg h6]
              have ha : exN a ≠ 0 := by omega
              have hb : exN b ≠ 0 := by omega
              have b1 := exE_bounds a
              have b2 := exE_bounds b
              have b3 := exN_bl a
              have b4 := exN_bl b
              have b5 := bl_shift (k := 120) ha
              have hsm : Sm (exN a * 2 ^ 120) := by unfold Sm; omega
              have hsb : Sm (exN b) := by unfold Sm; omega
              have hq0 : exN a * 2 ^ 120 / exN b ≠ 0 := by
                have h1 := exN_lt b
                have h2 : exN b ≤ exN a * 2 ^ 120 := Nat.le_trans (by omega : exN b ≤ 2 ^ 120) (Nat.le_mul_of_pos_left _ (by omega))
                have := Nat.div_pos h2 (by omega)
                omega
              have hqb : bl (exN a * 2 ^ 120 / exN b) ≤ 173 := by
                have := bl_mono (Nat.div_le_self (exN a * 2 ^ 120) (exN b)); omega
              have hm2 := bl_mk2 (exN a * 2 ^ 120 / exN b) (decide (exN a * 2 ^ 120 % exN b = 0))
              have hn : mk2 (exN a * 2 ^ 120 / exN b) (decide (exN a * 2 ^ 120 % exN b = 0)) ≠ 0 := by
                unfold mk2
                have : 0 < exN a * 2 ^ 120 / exN b := Nat.pos_of_ne_zero hq0
                omega
              exact rdiv_go m a b _ _ Ka Kb _ hx _ _ _ _ _ _ _ _ _ _ _ (fun W => rexact_any a ua W) (fun W => rexact_any b ub W)
                (fun W A B ca cb hA hB => rquotient_any _ _ A B ca cb _ _ _ _ _ _ _ W hA hB hsm hsb (Nat.pos_of_ne_zero hb) (wrap64_of (by omega) (by omega)) (wrap64_of (by omega) (by omega)) (wrap64_of (by omega) (by omega)))
                (fun W A c hA => finite_S hn hm (by omega) (by omega) (by omega) W A c hA) (nef (n := 0) h5) (nef (n := 3) h3) (nef (n := 0) h6) (nef (n := 3) h4) w
theorem agree_4 {m a b c : Nat} (ua : U64 a) (ub : U64 b) (uc : U64 c) : Agree 4 m a b c :=
  agree_op (by decide) (by decide) (fun args w => Tryd.call133 args w) ua ub uc fun hm hN => by
    obtain ⟨ka, kb⟩ := nanS2 hN
    exact ⟨_, _, divS_fl m a b, fun W => div_any 4 m a b c hm ua ub ka kb W, fun hR W => rDo_4 m a b c _ _ (by omega) ua ub uc hR (fun W => rdiv_any m a b hm ua ub ka kb W) W⟩
set_option maxRecDepth 100000 in
set_option maxHeartbeats 400000 in
theorem Quotients_any (A : Option Addr) (len cap : Nat) (hl : len ≤ maxLen) (w : World) (hT : TableAt w) (hst : StepsIn w A len) :
    Calls Tryd.prog 9 #[.slice A len cap] w fun e w' => e = .returned (.bool true) ∧ Below w.heap.size w w' := by
  have C1 := Lib.hid (fun W hT hst => of_any A len cap 4 4 hl W hT hst fun o m a b c ho _ h1 h2 ua ub uc => by
    obtain rfl : o = 4 := by omega
    exact agree_4 ua ub uc)
  replace hst := Lib.hid hst
  replace hT := Lib.hid hT
  clear hl
  go_enter Tryd.func9, Tryd.ntmps9
  go_wp2_with fail
  refine (C1.out _ hT.out hst.out).mono ?_
  rintro e w1 ⟨rfl, hb1⟩
  go_wp2_with fail
  go_ret
  exact ⟨rfl, hb1⟩
end Go.Proofs.YtldmbneckcjonaaDoor
namespace Go.Proofs.YtldmbneckcjonaaDoor
open Go.RowKit Go.WideShapes Go.ChangeShapes Go.ChangeAt
set_option maxRecDepth 100000 in
theorem quotients_lifted (os : Os) (started : os.Started) (H : Type) (enc : TypeId × Value → H) :
    ReturnsInHanded {} Tryd.checked os 9 .any (fun w args => (Rows.quotientsSpec.pre enc Tryd.prog Tryd.f9 [] false w args ∧ laidMetH Tryd.prog laidL w) ∧ sizedMet enc Tryd.prog Tryd.f9 (OpenSpec.ofChange Rows.quotientsSpec) false w args)
      (Rows.quotientsSpec.post enc Tryd.prog Tryd.f9 false true false false) := by
  refine returnsInHanded_of_change_and (C := Tryd.checked) (X := fun w _ => laidMetH Tryd.prog laidL w) (fun _ _ _ hh h => h.of_heap hh) own started (by kernel_rfl) Tryd.func9
    (ChangeSpec.witness_shaped (enc := enc) (C := Tryd.checked) (os := os) (X := fun w _ => laidMetH Tryd.prog laidL w) false (World.doorLaid Tryd.prog 600 os) #[.slice none 0 0] 8 rfl (World.shaped_of_RefB (by kernel_rfl) (by kernel_rfl)) (by kernel_rfl) (by kernel_rfl) (by kernel_rfl) (door_met os _)) ?_
  intro W base args ds gs before hval hW _ _ hL _
  obtain ⟨A, len, cap, rfl, hl, hst, fin⟩ := law_shut (nm := "quotients") (f := Tryd.f9) rfl rfl (fun j t v h1 h2 => .inr ⟨base, hval j t v h1 h2⟩) hW
  refine (Quotients_any A len cap hl W (of_laid hL) (stepsIn_of hst)).mono fun e W' ⟨he, hw⟩ => ?_
  subst he
  exact ⟨_, rfl, fin W' hw⟩
theorem quotients_holds : Rows.QuotientsSaid :=
  OpenClaim.holds_of_wide_leaving 9 Tryd.f9 rfl rfl rfl rfl rfl rfl rfl ⟨rfl, rfl, rfl, rfl, rfl⟩ rfl rfl rfl rfl rfl (by kernel_rfl) Tryd.func9 (by kernel_rfl)
    (of_decide_eq_true (by kernel_rfl)) (by unfold Func.isWrapper; first | (rw [if_pos (by decide +kernel)]; kernel_rfl) | (rw [if_neg (by decide +kernel)]; exact ⟨rfl, rfl⟩))
    (fun os started H enc _ => leaving_of_handed (quotients_lifted os started H enc))
theorem quotients_card_holds : Rows.QuotientsCardSaid :=
  holds_tied_goes .later [.funcs] true (true, "6c2333d7cfd43ffcebf9976d2fa59ef1805734a55d7131f269abed5f0ab20e77") false quotients_holds (by kernel_rfl) quotients_row_tie rfl ⟨rfl, rfl⟩ (by kernel_rfl) rfl
    (fun f fn hf hfn => by
      obtain rfl : f = 9 := Option.some.inj ((show Tryd.prog.funcNamed "softfloat/softfloatlaw.Quotients" = some 9 by kernel_rfl).symm.trans hf) |>.symm
      obtain rfl : fn = Tryd.f9 := (Option.some.inj (Tryd.func9.symm.trans hfn)).symm
      exact ⟨by kernel_rfl, fun j t ht => by
        have hp : Tryd.f9.params = #[22] := rfl
        rw [hp] at ht
        have hm : t ∈ [22] := by simpa using Array.mem_of_getElem? ht
        have hall : ([22].all fun u => !Tryd.prog.wantsStandIn u) = true := by kernel_rfl
        exact (show Tryd.prog.wantsStandIn t = false by simpa using List.all_eq_true.1 hall t hm)⟩)
    (by kernel_rfl)
#print axioms quotients_card_holds
end Go.Proofs.YtldmbneckcjonaaDoor
