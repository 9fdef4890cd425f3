/- Several texts in one: softfloatref.fused. · softfloatref.fused, whole; the law Fused. · Fused: for every script the law returns true and leaves its argument as it was. Condition: the table of operations is as the program's text lays it, which the card's tie shows. -/
import Derived.Deep.RegionHeld3
import Derived.Deep.Cut
import Derived.Test.YtldmbneckcjonaaDoorGH
import Derived.Test.YtldmbneckcjonaaDoorGI
import Derived.Test.YtldmbneckcjonaaDoorSums
import Derived.Test.YtldmbneckcjonaaDoorGO
import Derived.Test.YtldmbneckcjonaaDoorGJ
import Derived.Test.YtldmbneckcjonaaDoorCards
set_option linter.unusedVariables false
set_option linter.unusedSimpArgs false
namespace Go.Proofs.YtldmbneckcjonaaDoor
open Go.RowKit
set_option maxRecDepth 100000 in
set_option maxHeartbeats 2000000 in
theorem rfma_bad1 (m a b c kc : Nat) (Ka : Hid (∀ W, Calls Tryd.prog 43 #[.int .u64 a] W fun e w' => e = .returned (.int .i64 3) ∧ W = w')) (Kb : Hid (∀ W, Calls Tryd.prog 43 #[.int .u64 b] W fun e w' => e = .returned (.int .i64 0) ∧ W = w')) (Kc : Hid (∀ W, Calls Tryd.prog 43 #[.int .u64 c] W fun e w' => e = .returned (.int .i64 (kc : Int)) ∧ W = w')) (sg : Nat) (hx : bits .and .u64 (bits .xor .u64 (a : Int) (b : Int)) 9223372036854775808 = sg) (w : World) :
    Calls Tryd.prog 49 #[.int .u64 a, .int .u64 b, .int .u64 c, .int .i64 m] w (RefOutB 9221120237041090560 16 false w) := by
  go_enter Tryd.func49, Tryd.ntmps49
  go_wp2_with (first | (go_at_call_of 43 (Value.int IntKind.u64 a); refine (Ka.out _).mono ?_; rintro e w' ⟨rfl, rfl⟩) | (go_at_call_of 43 (Value.int IntKind.u64 b); refine (Kb.out _).mono ?_; rintro e w' ⟨rfl, rfl⟩) | (go_at_call_of 43 (Value.int IntKind.u64 c); refine (Kc.out _).mono ?_; rintro e w' ⟨rfl, rfl⟩))
  all_goals refine bodyPost_ret (v := RV 9221120237041090560 16 false) (by simp [results, Tryd.results49, go_sem, *]) rfl ⟨rfl, ?_⟩
  repeat' (first | with_reducible exact Below.refl _ _ | with_reducible assumption | with_reducible refine Below.drew ?_ | with_reducible refine bdrewN ?_ _ | with_reducible refine Below.alloc ?_ ?_ _ | with_reducible refine Below.setCell ?_ ?_ _ | with_reducible refine Below.trans ?_ (Below.mono (by assumption) ?_) | omega | (simp; done) | (simp; omega))
set_option maxRecDepth 100000 in
set_option maxHeartbeats 2000000 in
theorem rfma_bad2 (m a b c kc : Nat) (Ka : Hid (∀ W, Calls Tryd.prog 43 #[.int .u64 a] W fun e w' => e = .returned (.int .i64 0) ∧ W = w')) (Kb : Hid (∀ W, Calls Tryd.prog 43 #[.int .u64 b] W fun e w' => e = .returned (.int .i64 3) ∧ W = w')) (Kc : Hid (∀ W, Calls Tryd.prog 43 #[.int .u64 c] W fun e w' => e = .returned (.int .i64 (kc : Int)) ∧ W = w')) (sg : Nat) (hx : bits .and .u64 (bits .xor .u64 (a : Int) (b : Int)) 9223372036854775808 = sg) (w : World) :
    Calls Tryd.prog 49 #[.int .u64 a, .int .u64 b, .int .u64 c, .int .i64 m] w (RefOutB 9221120237041090560 16 false w) := by
  go_enter Tryd.func49, Tryd.ntmps49
  go_wp2_with (first | (go_at_call_of 43 (Value.int IntKind.u64 a); refine (Ka.out _).mono ?_; rintro e w' ⟨rfl, rfl⟩) | (go_at_call_of 43 (Value.int IntKind.u64 b); refine (Kb.out _).mono ?_; rintro e w' ⟨rfl, rfl⟩) | (go_at_call_of 43 (Value.int IntKind.u64 c); refine (Kc.out _).mono ?_; rintro e w' ⟨rfl, rfl⟩))
  all_goals refine bodyPost_ret (v := RV 9221120237041090560 16 false) (by simp [results, Tryd.results49, go_sem, *]) rfl ⟨rfl, ?_⟩
  repeat' (first | with_reducible exact Below.refl _ _ | with_reducible assumption | with_reducible refine Below.drew ?_ | with_reducible refine bdrewN ?_ _ | with_reducible refine Below.alloc ?_ ?_ _ | with_reducible refine Below.setCell ?_ ?_ _ | with_reducible refine Below.trans ?_ (Below.mono (by assumption) ?_) | omega | (simp; done) | (simp; omega))
set_option maxRecDepth 100000 in
set_option maxHeartbeats 2000000 in
theorem rfma_i1 (m a b c kb kc : Nat) (Ka : Hid (∀ W, Calls Tryd.prog 43 #[.int .u64 a] W fun e w' => e = .returned (.int .i64 3) ∧ W = w')) (Kb : Hid (∀ W, Calls Tryd.prog 43 #[.int .u64 b] W fun e w' => e = .returned (.int .i64 (kb : Int)) ∧ W = w')) (Kc : Hid (∀ W, Calls Tryd.prog 43 #[.int .u64 c] W fun e w' => e = .returned (.int .i64 (kc : Int)) ∧ W = w')) (sg : Nat) (hx : bits .and .u64 (bits .xor .u64 (a : Int) (b : Int)) 9223372036854775808 = sg) (bi : Nat) (hi : IntKind.u64.wrap ((sg : Int) + 9218868437227405312) = bi) (bt fl : Nat) (AD : Hid (∀ W, Calls Tryd.prog 46 #[.int .u64 bi, .int .u64 c, .int .i64 m] W (RefOutB bt fl false W))) (hkb0 : ((kb : Int) == 0) = false) (w : World) :
    Calls Tryd.prog 49 #[.int .u64 a, .int .u64 b, .int .u64 c, .int .i64 m] w (RefOutB bt fl false w) := by
  go_enter Tryd.func49, Tryd.ntmps49
  go_wp2_with (first | (go_at_call_of 43 (Value.int IntKind.u64 a); refine (Ka.out _).mono ?_; rintro e w' ⟨rfl, rfl⟩) | (go_at_call_of 43 (Value.int IntKind.u64 b); refine (Kb.out _).mono ?_; rintro e w' ⟨rfl, rfl⟩) | (go_at_call_of 43 (Value.int IntKind.u64 c); refine (Kc.out _).mono ?_; rintro e w' ⟨rfl, rfl⟩))
  refine (AD.out _).mono ?_
  rintro e w1 ⟨rfl, hb1⟩
  have hk_w1_0_0 : w1.cell? ⟨w.heap.size, 0, none⟩ = some (.int .u64 0) := (by rw [hb1.cell (p := ⟨w.heap.size, 0, none⟩) (by first | omega | (simp; done) | (simp; omega))]; go_simp; done)
  have hg_w1_0_0 : w1.frozen? ⟨w.heap.size, 0, none⟩ = false := (by rw [hb1.frozen (p := ⟨w.heap.size, 0, none⟩) (by first | omega | (simp; done) | (simp; omega))]; go_simp; done)
  have hk_w1_0_1 : w1.cell? ⟨w.heap.size, 1, none⟩ = some (.int .i64 0) := (by rw [hb1.cell (p := ⟨w.heap.size, 1, none⟩) (by first | omega | (simp; done) | (simp; omega))]; go_simp; done)
  have hg_w1_0_1 : w1.frozen? ⟨w.heap.size, 1, none⟩ = false := (by rw [hb1.frozen (p := ⟨w.heap.size, 1, none⟩) (by first | omega | (simp; done) | (simp; omega))]; go_simp; done)
  have hk_w1_0_2 : w1.cell? ⟨w.heap.size, 2, none⟩ = some (.bool false) := (by rw [hb1.cell (p := ⟨w.heap.size, 2, none⟩) (by first | omega | (simp; done) | (simp; omega))]; go_simp; done)
  have hg_w1_0_2 : w1.frozen? ⟨w.heap.size, 2, none⟩ = false := (by rw [hb1.frozen (p := ⟨w.heap.size, 2, none⟩) (by first | omega | (simp; done) | (simp; omega))]; go_simp; done)
  go_wp2_with fail
  all_goals refine bodyPost_ret (v := RV bt fl false) (by simp [results, Tryd.results49, go_sem, *]) rfl ⟨rfl, ?_⟩
  repeat' (first | with_reducible exact Below.refl _ _ | with_reducible assumption | with_reducible refine Below.drew ?_ | with_reducible refine bdrewN ?_ _ | with_reducible refine Below.alloc ?_ ?_ _ | with_reducible refine Below.setCell ?_ ?_ _ | with_reducible refine Below.trans ?_ (Below.mono (by assumption) ?_) | omega | (simp; done) | (simp; omega))
set_option maxRecDepth 100000 in
set_option maxHeartbeats 2000000 in
theorem rfma_i2 (m a b c ka kc : Nat) (Ka : Hid (∀ W, Calls Tryd.prog 43 #[.int .u64 a] W fun e w' => e = .returned (.int .i64 (ka : Int)) ∧ W = w')) (Kb : Hid (∀ W, Calls Tryd.prog 43 #[.int .u64 b] W fun e w' => e = .returned (.int .i64 3) ∧ W = w')) (Kc : Hid (∀ W, Calls Tryd.prog 43 #[.int .u64 c] W fun e w' => e = .returned (.int .i64 (kc : Int)) ∧ W = w')) (sg : Nat) (hx : bits .and .u64 (bits .xor .u64 (a : Int) (b : Int)) 9223372036854775808 = sg) (bi : Nat) (hi : IntKind.u64.wrap ((sg : Int) + 9218868437227405312) = bi) (bt fl : Nat) (AD : Hid (∀ W, Calls Tryd.prog 46 #[.int .u64 bi, .int .u64 c, .int .i64 m] W (RefOutB bt fl false W))) (hka0 : ((ka : Int) == 0) = false) (hka3 : ((ka : Int) == 3) = false) (w : World) :
    Calls Tryd.prog 49 #[.int .u64 a, .int .u64 b, .int .u64 c, .int .i64 m] w (RefOutB bt fl false w) := by
  go_enter Tryd.func49, Tryd.ntmps49
  go_wp2_with (first | (go_at_call_of 43 (Value.int IntKind.u64 a); refine (Ka.out _).mono ?_; rintro e w' ⟨rfl, rfl⟩) | (go_at_call_of 43 (Value.int IntKind.u64 b); refine (Kb.out _).mono ?_; rintro e w' ⟨rfl, rfl⟩) | (go_at_call_of 43 (Value.int IntKind.u64 c); refine (Kc.out _).mono ?_; rintro e w' ⟨rfl, rfl⟩))
  refine (AD.out _).mono ?_
  rintro e w1 ⟨rfl, hb1⟩
  have hk_w1_0_0 : w1.cell? ⟨w.heap.size, 0, none⟩ = some (.int .u64 0) := (by rw [hb1.cell (p := ⟨w.heap.size, 0, none⟩) (by first | omega | (simp; done) | (simp; omega))]; go_simp; done)
  have hg_w1_0_0 : w1.frozen? ⟨w.heap.size, 0, none⟩ = false := (by rw [hb1.frozen (p := ⟨w.heap.size, 0, none⟩) (by first | omega | (simp; done) | (simp; omega))]; go_simp; done)
  have hk_w1_0_1 : w1.cell? ⟨w.heap.size, 1, none⟩ = some (.int .i64 0) := (by rw [hb1.cell (p := ⟨w.heap.size, 1, none⟩) (by first | omega | (simp; done) | (simp; omega))]; go_simp; done)
  have hg_w1_0_1 : w1.frozen? ⟨w.heap.size, 1, none⟩ = false := (by rw [hb1.frozen (p := ⟨w.heap.size, 1, none⟩) (by first | omega | (simp; done) | (simp; omega))]; go_simp; done)
  have hk_w1_0_2 : w1.cell? ⟨w.heap.size, 2, none⟩ = some (.bool false) := (by rw [hb1.cell (p := ⟨w.heap.size, 2, none⟩) (by first | omega | (simp; done) | (simp; omega))]; go_simp; done)
  have hg_w1_0_2 : w1.frozen? ⟨w.heap.size, 2, none⟩ = false := (by rw [hb1.frozen (p := ⟨w.heap.size, 2, none⟩) (by first | omega | (simp; done) | (simp; omega))]; go_simp; done)
  go_wp2_with fail
  all_goals refine bodyPost_ret (v := RV bt fl false) (by simp [results, Tryd.results49, go_sem, *]) rfl ⟨rfl, ?_⟩
  repeat' (first | with_reducible exact Below.refl _ _ | with_reducible assumption | with_reducible refine Below.drew ?_ | with_reducible refine bdrewN ?_ _ | with_reducible refine Below.alloc ?_ ?_ _ | with_reducible refine Below.setCell ?_ ?_ _ | with_reducible refine Below.trans ?_ (Below.mono (by assumption) ?_) | omega | (simp; done) | (simp; omega))
set_option maxRecDepth 100000 in
set_option maxHeartbeats 2000000 in
theorem rfma_c3 (m a b c ka kb : Nat) (Ka : Hid (∀ W, Calls Tryd.prog 43 #[.int .u64 a] W fun e w' => e = .returned (.int .i64 (ka : Int)) ∧ W = w')) (Kb : Hid (∀ W, Calls Tryd.prog 43 #[.int .u64 b] W fun e w' => e = .returned (.int .i64 (kb : Int)) ∧ W = w')) (Kc : Hid (∀ W, Calls Tryd.prog 43 #[.int .u64 c] W fun e w' => e = .returned (.int .i64 3) ∧ W = w')) (sg : Nat) (hx : bits .and .u64 (bits .xor .u64 (a : Int) (b : Int)) 9223372036854775808 = sg) (hka3 : ((ka : Int) == 3) = false) (hkb3 : ((kb : Int) == 3) = false) (w : World) :
    Calls Tryd.prog 49 #[.int .u64 a, .int .u64 b, .int .u64 c, .int .i64 m] w (RefOutB c 0 false w) := by
  go_enter Tryd.func49, Tryd.ntmps49
  go_wp2_with (first | (go_at_call_of 43 (Value.int IntKind.u64 a); refine (Ka.out _).mono ?_; rintro e w' ⟨rfl, rfl⟩) | (go_at_call_of 43 (Value.int IntKind.u64 b); refine (Kb.out _).mono ?_; rintro e w' ⟨rfl, rfl⟩) | (go_at_call_of 43 (Value.int IntKind.u64 c); refine (Kc.out _).mono ?_; rintro e w' ⟨rfl, rfl⟩))
  all_goals refine bodyPost_ret (v := RV c 0 false) (by simp [results, Tryd.results49, go_sem, *]) rfl ⟨rfl, ?_⟩
  repeat' (first | with_reducible exact Below.refl _ _ | with_reducible assumption | with_reducible refine Below.drew ?_ | with_reducible refine bdrewN ?_ _ | with_reducible refine Below.alloc ?_ ?_ _ | with_reducible refine Below.setCell ?_ ?_ _ | with_reducible refine Below.trans ?_ (Below.mono (by assumption) ?_) | omega | (simp; done) | (simp; omega))
set_option maxRecDepth 100000 in
set_option maxHeartbeats 2000000 in
theorem rfma_go (m a b c ka kb kc : Nat) (Ka : Hid (∀ W, Calls Tryd.prog 43 #[.int .u64 a] W fun e w' => e = .returned (.int .i64 (ka : Int)) ∧ W = w')) (Kb : Hid (∀ W, Calls Tryd.prog 43 #[.int .u64 b] W fun e w' => e = .returned (.int .i64 (kb : Int)) ∧ W = w')) (Kc : Hid (∀ W, Calls Tryd.prog 43 #[.int .u64 c] W fun e w' => e = .returned (.int .i64 (kc : Int)) ∧ W = w')) (sg : Nat) (hx : bits .and .u64 (bits .xor .u64 (a : Int) (b : Int)) 9223372036854775808 = sg) (na nb nc ng : Bool) (Na Nb Nc N bt fl : Nat) (ea eb ec eg : Int) (Ea : Hid (∀ W, Calls Tryd.prog 64 #[.int .u64 a] W (NumOut na Na ea W))) (Eb : Hid (∀ W, Calls Tryd.prog 64 #[.int .u64 b] W (NumOut nb Nb eb W))) (Ec : Hid (∀ W, Calls Tryd.prog 64 #[.int .u64 c] W (NumOut nc Nc ec W))) (P : Hid (∀ W A B ca cb, IsL W A (nd Na) Na → IsL W B (nd Nb) Nb → Calls Tryd.prog 66 #[NumV na A Na ca ea, NumV nb B Nb cb eb] W (NumOut ng N eg W))) (AD : Hid (∀ W A B ca cb, IsL W A (nd N) N → IsL W B (nd Nc) Nc → Calls Tryd.prog 63 #[NumV ng A N ca eg, NumV nc B Nc cb ec, .int .i64 m] W (RefOutB bt fl false W))) (hka3 : ((ka : Int) == 3) = false) (hkb3 : ((kb : Int) == 3) = false) (hkc3 : ((kc : Int) == 3) = false) (z : Bool) (hz0 : ((ka : Int) == 0) = z) (w : World) :
    Calls Tryd.prog 49 #[.int .u64 a, .int .u64 b, .int .u64 c, .int .i64 m] w (RefOutB bt fl false w) := by
  cases z
  all_goals
    go_enter Tryd.func49, Tryd.ntmps49
    go_wp2_with (first | (go_at_call_of 43 (Value.int IntKind.u64 a); refine (Ka.out _).mono ?_; rintro e w' ⟨rfl, rfl⟩) | (go_at_call_of 43 (Value.int IntKind.u64 b); refine (Kb.out _).mono ?_; rintro e w' ⟨rfl, rfl⟩) | (go_at_call_of 43 (Value.int IntKind.u64 c); refine (Kc.out _).mono ?_; rintro e w' ⟨rfl, rfl⟩))
    refine (Ea.out _).mono ?_
    rintro e w1 ⟨A1, c1, rfl, n1_, m1_, i1, hb1⟩
    go_wp2_with fail
    refine (Eb.out _).mono ?_
    rintro e w2 ⟨A2, c2, rfl, n2_, m2_, i2, hb2⟩
    replace i1 := i1.below (Nat.le_refl _) hb2
    go_wp2_with fail
    refine (P.out _ _ _ _ _ i1 i2).mono ?_
    rintro e w3 ⟨A3, c3, rfl, n3_, m3_, i3, hb3⟩
    clear i1 i2
    have hz1 := hb1.size
    simp at hz1
    have hz2 := hb2.size
    have hz3 := hb3.size
    have hBW := (hb1.trans (hb2.mono hb1.size)).trans (hb3.mono (Nat.le_trans hb1.size hb2.size))
    have hk_w3_0_0 : w3.cell? ⟨w.heap.size, 0, none⟩ = some (.int .u64 0) := (by rw [hBW.cell (p := ⟨w.heap.size, 0, none⟩) (by first | omega | (simp; done) | (simp; omega))]; go_simp; done)
    have hg_w3_0_0 : w3.frozen? ⟨w.heap.size, 0, none⟩ = false := (by rw [hBW.frozen (p := ⟨w.heap.size, 0, none⟩) (by first | omega | (simp; done) | (simp; omega))]; go_simp; done)
    have hk_w3_0_1 : w3.cell? ⟨w.heap.size, 1, none⟩ = some (.int .i64 0) := (by rw [hBW.cell (p := ⟨w.heap.size, 1, none⟩) (by first | omega | (simp; done) | (simp; omega))]; go_simp; done)
    have hg_w3_0_1 : w3.frozen? ⟨w.heap.size, 1, none⟩ = false := (by rw [hBW.frozen (p := ⟨w.heap.size, 1, none⟩) (by first | omega | (simp; done) | (simp; omega))]; go_simp; done)
    have hk_w3_0_2 : w3.cell? ⟨w.heap.size, 2, none⟩ = some (.bool false) := (by rw [hBW.cell (p := ⟨w.heap.size, 2, none⟩) (by first | omega | (simp; done) | (simp; omega))]; go_simp; done)
    have hg_w3_0_2 : w3.frozen? ⟨w.heap.size, 2, none⟩ = false := (by rw [hBW.frozen (p := ⟨w.heap.size, 2, none⟩) (by first | omega | (simp; done) | (simp; omega))]; go_simp; done)
    have hs3 : w.heap.size < w3.heap.size := by omega
    have hs3' : w.heap.size + 1 ≤ w3.heap.size := by omega
    have hB3 : Below w.heap.size w w3 := ((Below.refl _ w).alloc (Nat.le_refl _) _).trans (hBW.mono (by simp))
    clear hb1 hb2 hb3 hBW
    go_upto_region 11 with (fail)
    have i3a : IsL (w3.alloc (.cells #[.bool ng, .slice A3 (nd N) c3, .int .i64 eg] 119)) A3 (nd N) N := i3.below (Nat.le_refl _) ((Below.refl _ w3).alloc (Nat.le_refl _) _)
    have hBa : Below w.heap.size w (w3.alloc (.cells #[.bool ng, .slice A3 (nd N) c3, .int .i64 eg] 119)) := hB3.alloc (by omega) _
    go_region_held3 (fun w' => (w'.cell? ⟨w3.heap.size, 0, none⟩ = some (.bool ng) ∧ w'.cell? ⟨w3.heap.size, 1, none⟩ = some (.slice A3 (nd N) c3) ∧ w'.cell? ⟨w3.heap.size, 2, none⟩ = some (.int .i64 eg)))
      (first
        | exact hS5
        | exact hS4
        | (refine ⟨?_, ?_, ?_⟩ <;> (go_simp; done))
        | go_keep)
      (first
        | (go_at_call 64; refine (Ec.out _).mono ?_; rintro e w4 ⟨A4, c4, rfl, n4_, m4_, i4, hb4⟩
           have hS4 : w4.cell? ⟨w3.heap.size, 0, none⟩ = some (.bool ng) ∧ w4.cell? ⟨w3.heap.size, 1, none⟩ = some (.slice A3 (nd N) c3) ∧ w4.cell? ⟨w3.heap.size, 2, none⟩ = some (.int .i64 eg) := (by refine ⟨cell_below hb4 ?_, cell_below hb4 ?_, cell_below hb4 ?_⟩ <;> (go_simp; done))
           have hR4 : (w4.cell? ⟨w.heap.size, 0, none⟩ = some (.int .u64 0) ∧ w4.cell? ⟨w.heap.size, 1, none⟩ = some (.int .i64 0) ∧ w4.cell? ⟨w.heap.size, 2, none⟩ = some (.bool false)) := (by refine ⟨cell_below hb4 ?_, cell_below hb4 ?_, cell_below hb4 ?_⟩ <;> (go_simp; done))
           have hQ4 : (w4.frozen? ⟨w.heap.size, 0, none⟩ = false ∧ w4.frozen? ⟨w.heap.size, 1, none⟩ = false ∧ w4.frozen? ⟨w.heap.size, 2, none⟩ = false) := (by refine ⟨?_, ?_, ?_⟩ <;> (rw [hb4.frozen (by first | (simp; done) | (simp; omega))]; go_simp; done))
           have i3b : IsL w4 A3 (nd N) N := (by first | exact i3a.below (Nat.le_refl _) hb4 | exact (show IsL (w3.alloc (.cells #[.bool ng, .slice A3 (nd N) c3, .int .i64 eg] 119)).drew A3 (nd N) N from i3a).below (Nat.le_refl _) hb4)
           have hBb : Below w.heap.size w w4 := (by first | exact hBa.trans (hb4.mono hBa.size) | exact hBa.drew.trans (hb4.mono hBa.size)))
        | (go_at_call 63; refine (AD.out _ _ _ _ _ ?_ ?_).mono ?_; exact i3b; exact i4; rintro e w5 ⟨rfl, hb5⟩
           have hS5 : w5.cell? ⟨w3.heap.size, 0, none⟩ = some (.bool ng) ∧ w5.cell? ⟨w3.heap.size, 1, none⟩ = some (.slice A3 (nd N) c3) ∧ w5.cell? ⟨w3.heap.size, 2, none⟩ = some (.int .i64 eg) := ⟨cell_below hb5 hS4.1, cell_below hb5 hS4.2.1, cell_below hb5 hS4.2.2⟩
           have hR0 := cell_below hb5 hR4.1
           have hR1 := cell_below hb5 hR4.2.1
           have hR2 := cell_below hb5 hR4.2.2
           have hQ0 := frozen_below hb5 hR4.1 hQ4.1
           have hQ1 := frozen_below hb5 hR4.2.1 hQ4.2.1
           have hQ2 := frozen_below hb5 hR4.2.2 hQ4.2.2
           have hBc : Below w.heap.size w w5 := (by first | exact hBb.trans (hb5.mono hBb.size) | exact hBb.drew.trans (hb5.mono hBb.size))))
    go_wp2_with fail
    refine bodyPost_ret (v := RV bt fl false) (by simp [results, Tryd.results49, go_sem, *]) rfl ⟨rfl, ?_⟩
    repeat' (first | with_reducible exact Below.refl _ _ | with_reducible assumption | with_reducible refine Below.drew ?_ | with_reducible refine bdrewN ?_ _ | with_reducible refine Below.alloc ?_ ?_ _ | with_reducible refine Below.setCell ?_ ?_ _ | with_reducible refine Below.trans ?_ (Below.mono (by assumption) ?_) | omega | (simp; done) | (simp; omega))
end Go.Proofs.YtldmbneckcjonaaDoor
namespace Go.Proofs.YtldmbneckcjonaaDoor
open Go.RowKit
theorem exN_mod3 (a : Nat) : Mod (exN a) := by have := exN_bl a; unfold Mod; omega
theorem bl_mul3 (a b : Nat) : bl (exN a * exN b) ≤ 106 := by have := bl_mul_le (exN a) (exN b); have := exN_bl a; have := exN_bl b; omega
theorem wrap_sg3 {g : Bool} {x : Nat} (h : x < 9223372036854775808) : IntKind.u64.wrap ((signN g : Int) + (x : Int)) = ((signN g + x : Nat) : Int) := by
  cases g
  · have e : signN false = 0 := rfl
    rw [e, IntKind.wrap_u64]; omega
  · have e : signN true = 9223372036854775808 := rfl
    rw [e, IntKind.wrap_u64]; omega
theorem rfma_any (m a b c : Nat) (hm : m < 5) (ua : U64 a) (ub : U64 b) (uc : U64 c) (ka : kindN a < 4) (kb : kindN b < 4) (kc : kindN c < 4) (w : World) : Calls Tryd.prog 49 #[.int .u64 a, .int .u64 b, .int .u64 c, .int .i64 m] w (RefOutB (fmaS m a b c).1 (fmaS m a b c).2 false w) := by
  have Ka := Lib.hid (fun W => kind_any a ua W)
  have Kb := Lib.hid (fun W => kind_any b ub W)
  have Kc := Lib.hid (fun W => kind_any c uc W)
  have hx := xor_sign ua ub
  have hik := inf_kind (negU a != negU b)
  have hiu := inf_u (negU a != negU b)
  by_cases h1 : kindN a = 3 ∧ kindN b = 0
  · have e : fmaS m a b c = (9221120237041090560, 16) := by unfold fmaS; rw [if_pos (.inl h1)]
    rw [e]; rw [h1.1] at Ka; rw [h1.2] at Kb
    exact rfma_bad1 m a b c _ Ka Kb Kc _ hx w
  · by_cases h2 : kindN a = 0 ∧ kindN b = 3
    · have e : fmaS m a b c = (9221120237041090560, 16) := by unfold fmaS; rw [if_pos (.inr h2)]
      rw [e]; rw [h2.1] at Ka; rw [h2.2] at Kb
      exact rfma_bad2 m a b c _ Ka Kb Kc _ hx w
    · have e0 : fmaS m a b c = if kindN a = 3 ∨ kindN b = 3 then addS m (signN (negU a != negU b) + 9218868437227405312) c
          else if kindN c = 3 then (c, 0)
          else addedV m (negU a != negU b) (negU c) (val (exN a * exN b) (exE a + exE b)) (val (exN c) (exE c)) := by unfold fmaS; rw [if_neg (by omega)]
      rw [e0]
      have hw := wrap_sg3 (g := negU a != negU b) (x := 9218868437227405312) (by omega)
      generalize hbi : signN (negU a != negU b) + 9218868437227405312 = bi at *
      have AD : Hid (∀ W, Calls Tryd.prog 46 #[.int .u64 bi, .int .u64 c, .int .i64 m] W (RefOutB (addS m bi c).1 (addS m bi c).2 false W)) := fun W => radd_any m bi c hm hiu uc (by omega) kc W
      by_cases h3 : kindN a = 3
      · rw [if_pos (.inl h3)]
        rw [h3] at Ka
        exact rfma_i1 m a b c _ _ Ka Kb Kc _ hx _ hw _ _ AD (nef (n := 0) (by omega)) w
      · by_cases h4 : kindN b = 3
        · rw [if_pos (.inr h4)]
          rw [h4] at Kb
          exact rfma_i2 m a b c _ _ Ka Kb Kc _ hx _ hw _ _ AD (nef (n := 0) (by omega)) (nef (n := 3) h3) w
        · rw [if_neg (by omega)]
          by_cases h5 : kindN c = 3
          · rw [if_pos h5]
            rw [h5] at Kc
            exact rfma_c3 m a b c _ _ Ka Kb Kc _ hx (nef (n := 3) h3) (nef (n := 3) h4) w
          · rw [if_neg h5]
            have c1 := exE_bounds a
            have c2 := exE_bounds b
            have c3 := exE_bounds c
            have d1 := bl_mul3 a b
            have d2 := exN_bl c
            exact rfma_go m a b c _ _ _ Ka Kb Kc _ hx _ _ _ _ _ _ _ _ _ _ _ _ _ _ (fun W => rexact_any a ua W) (fun W => rexact_any b ub W) (fun W => rexact_any c uc W)
              (fun W A B ca cb hA hB => rproduct_any _ _ A B ca cb _ _ _ _ W hA hB (exN_mod3 a) (exN_mod3 b) (by rw [IntKind.wrap_i64]; omega))
              (fun W A B ca cb hA hB => radded_any _ _ A B ca cb _ _ m _ _ W hA hB hm (by omega) (by omega) (by omega) (by omega) (by omega) (by omega)) (nef (n := 3) h3) (nef (n := 3) h4) (nef (n := 3) h5) _ rfl w
theorem agree_5 {m a b c : Nat} (ua : U64 a) (ub : U64 b) (uc : U64 c) : Agree 5 m a b c :=
  agree_op (by decide) (by decide) (fun args w => Tryd.call134 args w) ua ub uc fun hm hN => by
    obtain ⟨ka, kb, kc⟩ := nanS3 hN
    exact ⟨_, _, fmaS_fl m a b c, fun W => fma_any 5 m a b c hm ua ub uc ka kb kc W, fun hR W => rDo_5 m a b c _ _ (by omega) ua ub uc hR (fun W => rfma_any m a b c hm ua ub uc ka kb kc W) W⟩
set_option maxRecDepth 100000 in
set_option maxHeartbeats 400000 in
theorem Fused_any (A : Option Addr) (len cap : Nat) (hl : len ≤ maxLen) (w : World) (hT : TableAt w) (hst : StepsIn w A len) :
    Calls Tryd.prog 10 #[.slice A len cap] w fun e w' => e = .returned (.bool true) ∧ Below w.heap.size w w' := by
  have C1 := Lib.hid (fun W hT hst => of_any A len cap 5 5 hl W hT hst fun o m a b c ho _ h1 h2 ua ub uc => by
    obtain rfl : o = 5 := by omega
    exact agree_5 ua ub uc)
  replace hst := Lib.hid hst
  replace hT := Lib.hid hT
  clear hl
  go_enter Tryd.func10, Tryd.ntmps10
  go_wp2_with fail
  refine (C1.out _ hT.out hst.out).mono ?_
  rintro e w1 ⟨rfl, hb1⟩
  go_wp2_with fail
  go_ret
  exact ⟨rfl, hb1⟩
end Go.Proofs.YtldmbneckcjonaaDoor
namespace Go.Proofs.YtldmbneckcjonaaDoor
open Go.RowKit Go.WideShapes Go.ChangeShapes Go.ChangeAt
set_option maxRecDepth 100000 in
theorem fused_lifted (os : Os) (started : os.Started) (H : Type) (enc : TypeId × Value → H) :
    ReturnsInHanded {} Tryd.checked os 10 .any (fun w args => (Rows.fusedSpec.pre enc Tryd.prog Tryd.f10 [] false w args ∧ laidMetH Tryd.prog laidL w) ∧ sizedMet enc Tryd.prog Tryd.f10 (OpenSpec.ofChange Rows.fusedSpec) false w args)
      (Rows.fusedSpec.post enc Tryd.prog Tryd.f10 false true false false) := by
  refine returnsInHanded_of_change_and (C := Tryd.checked) (X := fun w _ => laidMetH Tryd.prog laidL w) (fun _ _ _ hh h => h.of_heap hh) own started (by kernel_rfl) Tryd.func10
    (ChangeSpec.witness_shaped (enc := enc) (C := Tryd.checked) (os := os) (X := fun w _ => laidMetH Tryd.prog laidL w) false (World.doorLaid Tryd.prog 600 os) #[.slice none 0 0] 8 rfl (World.shaped_of_RefB (by kernel_rfl) (by kernel_rfl)) (by kernel_rfl) (by kernel_rfl) (by kernel_rfl) (door_met os _)) ?_
  intro W base args ds gs before hval hW _ _ hL _
  obtain ⟨A, len, cap, rfl, hl, hst, fin⟩ := law_shut (nm := "fused") (f := Tryd.f10) rfl rfl (fun j t v h1 h2 => .inr ⟨base, hval j t v h1 h2⟩) hW
  refine (Fused_any A len cap hl W (of_laid hL) (stepsIn_of hst)).mono fun e W' ⟨he, hw⟩ => ?_
  subst he
  exact ⟨_, rfl, fin W' hw⟩
theorem fused_holds : Rows.FusedSaid :=
  OpenClaim.holds_of_wide_leaving 10 Tryd.f10 rfl rfl rfl rfl rfl rfl rfl ⟨rfl, rfl, rfl, rfl, rfl⟩ rfl rfl rfl rfl rfl (by kernel_rfl) Tryd.func10 (by kernel_rfl)
    (of_decide_eq_true (by kernel_rfl)) (by unfold Func.isWrapper; first | (rw [if_pos (by decide +kernel)]; kernel_rfl) | (rw [if_neg (by decide +kernel)]; exact ⟨rfl, rfl⟩))
    (fun os started H enc _ => leaving_of_handed (fused_lifted os started H enc))
theorem fused_card_holds : Rows.FusedCardSaid :=
  holds_tied_goes .later [.funcs] true (true, "6c2333d7cfd43ffcebf9976d2fa59ef1805734a55d7131f269abed5f0ab20e77") false fused_holds (by kernel_rfl) fused_row_tie rfl ⟨rfl, rfl⟩ (by kernel_rfl) rfl
    (fun f fn hf hfn => by
      obtain rfl : f = 10 := Option.some.inj ((show Tryd.prog.funcNamed "softfloat/softfloatlaw.Fused" = some 10 by kernel_rfl).symm.trans hf) |>.symm
      obtain rfl : fn = Tryd.f10 := (Option.some.inj (Tryd.func10.symm.trans hfn)).symm
      exact ⟨by kernel_rfl, fun j t ht => by
        have hp : Tryd.f10.params = #[22] := rfl
        rw [hp] at ht
        have hm : t ∈ [22] := by simpa using Array.mem_of_getElem? ht
        have hall : ([22].all fun u => !Tryd.prog.wantsStandIn u) = true := by kernel_rfl
        exact (show Tryd.prog.wantsStandIn t = false by simpa using List.all_eq_true.1 hall t hm)⟩)
    (by kernel_rfl)
#print axioms fused_card_holds
end Go.Proofs.YtldmbneckcjonaaDoor
