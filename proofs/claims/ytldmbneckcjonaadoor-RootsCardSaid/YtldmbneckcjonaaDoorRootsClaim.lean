/- Several texts in one: softfloatref.roots. · softfloatref.roots, whole. · The law Roots: sqrt, rsqrt, cbrt. · Roots: for every script the law returns true and leaves its argument as it was. Condition: the table of operations is as the program's text lays it, which the card's tie shows. -/
import Derived.Test.YtldmbneckcjonaaDoorGH
import Derived.Test.YtldmbneckcjonaaDoorGF
import Derived.Test.YtldmbneckcjonaaDoorGI
import Derived.Test.YtldmbneckcjonaaDoorGT
import Derived.Test.YtldmbneckcjonaaDoorGR
import Derived.Test.YtldmbneckcjonaaDoorGJ
import Derived.Test.YtldmbneckcjonaaDoorCards
set_option linter.unusedVariables false
set_option linter.unusedSimpArgs false
namespace Go.Proofs.YtldmbneckcjonaaDoor
open Go.RowKit
set_option maxRecDepth 100000 in
set_option maxHeartbeats 1000000 in
theorem rroots_sz (m a : Nat) (Ka : Hid (∀ W, Calls Tryd.prog 43 #[.int .u64 a] W fun e w' => e = .returned (.int .i64 0) ∧ W = w'))  (w : World) :
    Calls Tryd.prog 51 #[.int .i64 6, .int .u64 a, .int .i64 m] w (RefOutB a 0 false w) := by
  go_enter Tryd.func51, Tryd.ntmps51
  go_wp2_with fail
  refine (Ka.out _).mono ?_
  rintro e w' ⟨rfl, rfl⟩
  go_wp2_with fail
  all_goals refine bodyPost_ret (v := RV a 0 false) (by simp [results, Tryd.results51, go_sem, *]) rfl ⟨rfl, ?_⟩
  repeat' (first | with_reducible exact Below.refl _ _ | with_reducible assumption | with_reducible refine Below.drew ?_ | with_reducible refine bdrewN ?_ _ | with_reducible refine Below.alloc ?_ ?_ _ | with_reducible refine Below.setCell ?_ ?_ _ | with_reducible refine Below.trans ?_ (Below.mono (by assumption) ?_) | omega | (simp; done) | (simp; omega))
set_option maxRecDepth 100000 in
set_option maxHeartbeats 1000000 in
theorem rroots_sn (m a ka : Nat) (Ka : Hid (∀ W, Calls Tryd.prog 43 #[.int .u64 a] W fun e w' => e = .returned (.int .i64 (ka : Int)) ∧ W = w')) (ng : ((a : Int) / 9223372036854775808 == 1) = true) (hka0 : ((ka : Int) == 0) = false) (w : World) :
    Calls Tryd.prog 51 #[.int .i64 6, .int .u64 a, .int .i64 m] w (RefOutB 9221120237041090560 16 false w) := by
  go_enter Tryd.func51, Tryd.ntmps51
  go_wp2_with fail
  refine (Ka.out _).mono ?_
  rintro e w' ⟨rfl, rfl⟩
  go_wp2_with fail
  all_goals refine bodyPost_ret (v := RV 9221120237041090560 16 false) (by simp [results, Tryd.results51, go_sem, *]) rfl ⟨rfl, ?_⟩
  repeat' (first | with_reducible exact Below.refl _ _ | with_reducible assumption | with_reducible refine Below.drew ?_ | with_reducible refine bdrewN ?_ _ | with_reducible refine Below.alloc ?_ ?_ _ | with_reducible refine Below.setCell ?_ ?_ _ | with_reducible refine Below.trans ?_ (Below.mono (by assumption) ?_) | omega | (simp; done) | (simp; omega))
set_option maxRecDepth 100000 in
set_option maxHeartbeats 1000000 in
theorem rroots_si (m a : Nat) (Ka : Hid (∀ W, Calls Tryd.prog 43 #[.int .u64 a] W fun e w' => e = .returned (.int .i64 3) ∧ W = w')) (ng : ((a : Int) / 9223372036854775808 == 1) = false) (w : World) :
    Calls Tryd.prog 51 #[.int .i64 6, .int .u64 a, .int .i64 m] w (RefOutB a 0 false w) := by
  go_enter Tryd.func51, Tryd.ntmps51
  go_wp2_with fail
  refine (Ka.out _).mono ?_
  rintro e w' ⟨rfl, rfl⟩
  go_wp2_with fail
  all_goals refine bodyPost_ret (v := RV a 0 false) (by simp [results, Tryd.results51, go_sem, *]) rfl ⟨rfl, ?_⟩
  repeat' (first | with_reducible exact Below.refl _ _ | with_reducible assumption | with_reducible refine Below.drew ?_ | with_reducible refine bdrewN ?_ _ | with_reducible refine Below.alloc ?_ ?_ _ | with_reducible refine Below.setCell ?_ ?_ _ | with_reducible refine Below.trans ?_ (Below.mono (by assumption) ?_) | omega | (simp; done) | (simp; omega))
set_option maxRecDepth 100000 in
set_option maxHeartbeats 1000000 in
theorem rroots_sg (m a ka : Nat) (Ka : Hid (∀ W, Calls Tryd.prog 43 #[.int .u64 a] W fun e w' => e = .returned (.int .i64 (ka : Int)) ∧ W = w')) (ng : ((a : Int) / 9223372036854775808 == 1) = false) (na nb : Bool) (Na bt fl : Nat) (ea eb : Int) (PX : Nat → Prop) (Ea : Hid (∀ W, Calls Tryd.prog 64 #[.int .u64 a] W (NumOut na Na ea W))) (P : Hid (∀ W A ca, IsL W A (nd Na) Na → Calls Tryd.prog 68 #[NumV na A Na ca ea] W (fun e w' => ∃ X, PX X ∧ NumOut nb X eb W e w'))) (F : Hid (∀ W X A c, PX X → IsL W A (nd X) X → Calls Tryd.prog 65 #[NumV nb A X c eb, .int .i64 m] W (RefOutB bt fl false W))) (hka0 : ((ka : Int) == 0) = false) (hka3 : ((ka : Int) == 3) = false) (w : World) :
    Calls Tryd.prog 51 #[.int .i64 6, .int .u64 a, .int .i64 m] w (RefOutB bt fl false w) := by
  go_enter Tryd.func51, Tryd.ntmps51
  go_wp2_with fail
  refine (Ka.out _).mono ?_
  rintro e w' ⟨rfl, rfl⟩
  go_wp2_with fail
  refine (Ea.out _).mono ?_
  rintro e w1 ⟨A1, c1, rfl, n1_, m1_, i1, hb1⟩
  go_wp2_with fail
  refine (P.out _ _ _ i1).mono ?_
  rintro e w3 ⟨X, hX, A3, c3, rfl, n3_, m3_, i3, hb3⟩
  clear i1
  go_wp2_with fail
  refine (F.out _ _ _ _ hX i3).mono ?_
  rintro e w4 ⟨rfl, hb4⟩
  have hz1 := hb1.size
  simp at hz1
  have hz3 := hb3.size
  have hBW := (hb1.trans (hb3.mono hb1.size)).trans (hb4.mono (Nat.le_trans hb1.size hb3.size))
  have hk_w4_0_0 : w4.cell? ⟨w.heap.size, 0, none⟩ = some (.int .u64 0) := (by rw [hBW.cell (p := ⟨w.heap.size, 0, none⟩) (by first | omega | (simp; done) | (simp; omega))]; go_simp; done)
  have hg_w4_0_0 : w4.frozen? ⟨w.heap.size, 0, none⟩ = false := (by rw [hBW.frozen (p := ⟨w.heap.size, 0, none⟩) (by first | omega | (simp; done) | (simp; omega))]; go_simp; done)
  have hk_w4_0_1 : w4.cell? ⟨w.heap.size, 1, none⟩ = some (.int .i64 0) := (by rw [hBW.cell (p := ⟨w.heap.size, 1, none⟩) (by first | omega | (simp; done) | (simp; omega))]; go_simp; done)
  have hg_w4_0_1 : w4.frozen? ⟨w.heap.size, 1, none⟩ = false := (by rw [hBW.frozen (p := ⟨w.heap.size, 1, none⟩) (by first | omega | (simp; done) | (simp; omega))]; go_simp; done)
  have hk_w4_0_2 : w4.cell? ⟨w.heap.size, 2, none⟩ = some (.bool false) := (by rw [hBW.cell (p := ⟨w.heap.size, 2, none⟩) (by first | omega | (simp; done) | (simp; omega))]; go_simp; done)
  have hg_w4_0_2 : w4.frozen? ⟨w.heap.size, 2, none⟩ = false := (by rw [hBW.frozen (p := ⟨w.heap.size, 2, none⟩) (by first | omega | (simp; done) | (simp; omega))]; go_simp; done)
  go_wp2_with fail
  all_goals refine bodyPost_ret (v := RV bt fl false) (by simp [results, Tryd.results51, go_sem, *]) rfl ⟨rfl, ?_⟩
  repeat' (first | with_reducible exact Below.refl _ _ | with_reducible assumption | with_reducible refine Below.drew ?_ | with_reducible refine bdrewN ?_ _ | with_reducible refine Below.alloc ?_ ?_ _ | with_reducible refine Below.setCell ?_ ?_ _ | with_reducible refine Below.trans ?_ (Below.mono (by assumption) ?_) | omega | (simp; done) | (simp; omega))
set_option maxRecDepth 100000 in
set_option maxHeartbeats 1000000 in
theorem rroots_rz (m a : Nat) (Ka : Hid (∀ W, Calls Tryd.prog 43 #[.int .u64 a] W fun e w' => e = .returned (.int .i64 0) ∧ W = w')) (bi : Nat) (hi : bits .or .u64 (a : Int) 9218868437227405312 = bi) (w : World) :
    Calls Tryd.prog 51 #[.int .i64 7, .int .u64 a, .int .i64 m] w (RefOutB bi 8 false w) := by
  go_enter Tryd.func51, Tryd.ntmps51
  go_wp2_with fail
  refine (Ka.out _).mono ?_
  rintro e w' ⟨rfl, rfl⟩
  go_wp2_with fail
  all_goals refine bodyPost_ret (v := RV bi 8 false) (by simp [results, Tryd.results51, go_sem, *]) rfl ⟨rfl, ?_⟩
  repeat' (first | with_reducible exact Below.refl _ _ | with_reducible assumption | with_reducible refine Below.drew ?_ | with_reducible refine bdrewN ?_ _ | with_reducible refine Below.alloc ?_ ?_ _ | with_reducible refine Below.setCell ?_ ?_ _ | with_reducible refine Below.trans ?_ (Below.mono (by assumption) ?_) | omega | (simp; done) | (simp; omega))
set_option maxRecDepth 100000 in
set_option maxHeartbeats 1000000 in
theorem rroots_rn (m a ka : Nat) (Ka : Hid (∀ W, Calls Tryd.prog 43 #[.int .u64 a] W fun e w' => e = .returned (.int .i64 (ka : Int)) ∧ W = w')) (ng : ((a : Int) / 9223372036854775808 == 1) = true) (hka0 : ((ka : Int) == 0) = false) (w : World) :
    Calls Tryd.prog 51 #[.int .i64 7, .int .u64 a, .int .i64 m] w (RefOutB 9221120237041090560 16 false w) := by
  go_enter Tryd.func51, Tryd.ntmps51
  go_wp2_with fail
  refine (Ka.out _).mono ?_
  rintro e w' ⟨rfl, rfl⟩
  go_wp2_with fail
  all_goals refine bodyPost_ret (v := RV 9221120237041090560 16 false) (by simp [results, Tryd.results51, go_sem, *]) rfl ⟨rfl, ?_⟩
  repeat' (first | with_reducible exact Below.refl _ _ | with_reducible assumption | with_reducible refine Below.drew ?_ | with_reducible refine bdrewN ?_ _ | with_reducible refine Below.alloc ?_ ?_ _ | with_reducible refine Below.setCell ?_ ?_ _ | with_reducible refine Below.trans ?_ (Below.mono (by assumption) ?_) | omega | (simp; done) | (simp; omega))
set_option maxRecDepth 100000 in
set_option maxHeartbeats 1000000 in
theorem rroots_ri (m a : Nat) (Ka : Hid (∀ W, Calls Tryd.prog 43 #[.int .u64 a] W fun e w' => e = .returned (.int .i64 3) ∧ W = w')) (ng : ((a : Int) / 9223372036854775808 == 1) = false) (w : World) :
    Calls Tryd.prog 51 #[.int .i64 7, .int .u64 a, .int .i64 m] w (RefOutB 0 0 false w) := by
  go_enter Tryd.func51, Tryd.ntmps51
  go_wp2_with fail
  refine (Ka.out _).mono ?_
  rintro e w' ⟨rfl, rfl⟩
  go_wp2_with fail
  all_goals refine bodyPost_ret (v := RV 0 0 false) (by simp [results, Tryd.results51, go_sem, *]) rfl ⟨rfl, ?_⟩
  repeat' (first | with_reducible exact Below.refl _ _ | with_reducible assumption | with_reducible refine Below.drew ?_ | with_reducible refine bdrewN ?_ _ | with_reducible refine Below.alloc ?_ ?_ _ | with_reducible refine Below.setCell ?_ ?_ _ | with_reducible refine Below.trans ?_ (Below.mono (by assumption) ?_) | omega | (simp; done) | (simp; omega))
set_option maxRecDepth 100000 in
set_option maxHeartbeats 1000000 in
theorem rroots_rg (m a ka : Nat) (Ka : Hid (∀ W, Calls Tryd.prog 43 #[.int .u64 a] W fun e w' => e = .returned (.int .i64 (ka : Int)) ∧ W = w')) (ng : ((a : Int) / 9223372036854775808 == 1) = false) (na nb : Bool) (Na bt fl : Nat) (ea eb : Int) (PX : Nat → Prop) (Ea : Hid (∀ W, Calls Tryd.prog 64 #[.int .u64 a] W (NumOut na Na ea W))) (P : Hid (∀ W A ca, IsL W A (nd Na) Na → Calls Tryd.prog 71 #[NumV na A Na ca ea] W (fun e w' => ∃ X, PX X ∧ NumOut nb X eb W e w'))) (F : Hid (∀ W X A c, PX X → IsL W A (nd X) X → Calls Tryd.prog 65 #[NumV nb A X c eb, .int .i64 m] W (RefOutB bt fl false W))) (hka0 : ((ka : Int) == 0) = false) (hka3 : ((ka : Int) == 3) = false) (w : World) :
    Calls Tryd.prog 51 #[.int .i64 7, .int .u64 a, .int .i64 m] w (RefOutB bt fl false w) := by
  go_enter Tryd.func51, Tryd.ntmps51
  go_wp2_with fail
  refine (Ka.out _).mono ?_
  rintro e w' ⟨rfl, rfl⟩
  go_wp2_with fail
  refine (Ea.out _).mono ?_
  rintro e w1 ⟨A1, c1, rfl, n1_, m1_, i1, hb1⟩
  go_wp2_with fail
  refine (P.out _ _ _ i1).mono ?_
  rintro e w3 ⟨X, hX, A3, c3, rfl, n3_, m3_, i3, hb3⟩
  clear i1
  go_wp2_with fail
  refine (F.out _ _ _ _ hX i3).mono ?_
  rintro e w4 ⟨rfl, hb4⟩
  have hz1 := hb1.size
  simp at hz1
  have hz3 := hb3.size
  have hBW := (hb1.trans (hb3.mono hb1.size)).trans (hb4.mono (Nat.le_trans hb1.size hb3.size))
  have hk_w4_0_0 : w4.cell? ⟨w.heap.size, 0, none⟩ = some (.int .u64 0) := (by rw [hBW.cell (p := ⟨w.heap.size, 0, none⟩) (by first | omega | (simp; done) | (simp; omega))]; go_simp; done)
  have hg_w4_0_0 : w4.frozen? ⟨w.heap.size, 0, none⟩ = false := (by rw [hBW.frozen (p := ⟨w.heap.size, 0, none⟩) (by first | omega | (simp; done) | (simp; omega))]; go_simp; done)
  have hk_w4_0_1 : w4.cell? ⟨w.heap.size, 1, none⟩ = some (.int .i64 0) := (by rw [hBW.cell (p := ⟨w.heap.size, 1, none⟩) (by first | omega | (simp; done) | (simp; omega))]; go_simp; done)
  have hg_w4_0_1 : w4.frozen? ⟨w.heap.size, 1, none⟩ = false := (by rw [hBW.frozen (p := ⟨w.heap.size, 1, none⟩) (by first | omega | (simp; done) | (simp; omega))]; go_simp; done)
  have hk_w4_0_2 : w4.cell? ⟨w.heap.size, 2, none⟩ = some (.bool false) := (by rw [hBW.cell (p := ⟨w.heap.size, 2, none⟩) (by first | omega | (simp; done) | (simp; omega))]; go_simp; done)
  have hg_w4_0_2 : w4.frozen? ⟨w.heap.size, 2, none⟩ = false := (by rw [hBW.frozen (p := ⟨w.heap.size, 2, none⟩) (by first | omega | (simp; done) | (simp; omega))]; go_simp; done)
  go_wp2_with fail
  all_goals refine bodyPost_ret (v := RV bt fl false) (by simp [results, Tryd.results51, go_sem, *]) rfl ⟨rfl, ?_⟩
  repeat' (first | with_reducible exact Below.refl _ _ | with_reducible assumption | with_reducible refine Below.drew ?_ | with_reducible refine bdrewN ?_ _ | with_reducible refine Below.alloc ?_ ?_ _ | with_reducible refine Below.setCell ?_ ?_ _ | with_reducible refine Below.trans ?_ (Below.mono (by assumption) ?_) | omega | (simp; done) | (simp; omega))
set_option maxRecDepth 100000 in
set_option maxHeartbeats 1000000 in
theorem rroots_ci (m a : Nat) (Ka : Hid (∀ W, Calls Tryd.prog 43 #[.int .u64 a] W fun e w' => e = .returned (.int .i64 3) ∧ W = w'))  (w : World) :
    Calls Tryd.prog 51 #[.int .i64 8, .int .u64 a, .int .i64 m] w (RefOutB a 0 false w) := by
  go_enter Tryd.func51, Tryd.ntmps51
  go_wp2_with fail
  refine (Ka.out _).mono ?_
  rintro e w' ⟨rfl, rfl⟩
  go_wp2_with fail
  all_goals refine bodyPost_ret (v := RV a 0 false) (by simp [results, Tryd.results51, go_sem, *]) rfl ⟨rfl, ?_⟩
  repeat' (first | with_reducible exact Below.refl _ _ | with_reducible assumption | with_reducible refine Below.drew ?_ | with_reducible refine bdrewN ?_ _ | with_reducible refine Below.alloc ?_ ?_ _ | with_reducible refine Below.setCell ?_ ?_ _ | with_reducible refine Below.trans ?_ (Below.mono (by assumption) ?_) | omega | (simp; done) | (simp; omega))
set_option maxRecDepth 100000 in
set_option maxHeartbeats 1000000 in
theorem rroots_cz (m a : Nat) (Ka : Hid (∀ W, Calls Tryd.prog 43 #[.int .u64 a] W fun e w' => e = .returned (.int .i64 0) ∧ W = w'))  (w : World) :
    Calls Tryd.prog 51 #[.int .i64 8, .int .u64 a, .int .i64 m] w (RefOutB a 0 false w) := by
  go_enter Tryd.func51, Tryd.ntmps51
  go_wp2_with fail
  refine (Ka.out _).mono ?_
  rintro e w' ⟨rfl, rfl⟩
  go_wp2_with fail
  all_goals refine bodyPost_ret (v := RV a 0 false) (by simp [results, Tryd.results51, go_sem, *]) rfl ⟨rfl, ?_⟩
  repeat' (first | with_reducible exact Below.refl _ _ | with_reducible assumption | with_reducible refine Below.drew ?_ | with_reducible refine bdrewN ?_ _ | with_reducible refine Below.alloc ?_ ?_ _ | with_reducible refine Below.setCell ?_ ?_ _ | with_reducible refine Below.trans ?_ (Below.mono (by assumption) ?_) | omega | (simp; done) | (simp; omega))
set_option maxRecDepth 100000 in
set_option maxHeartbeats 1000000 in
theorem rroots_cg (m a ka : Nat) (Ka : Hid (∀ W, Calls Tryd.prog 43 #[.int .u64 a] W fun e w' => e = .returned (.int .i64 (ka : Int)) ∧ W = w')) (na nb : Bool) (Na bt fl : Nat) (ea eb : Int) (PX : Nat → Prop) (Ea : Hid (∀ W, Calls Tryd.prog 64 #[.int .u64 a] W (NumOut na Na ea W))) (P : Hid (∀ W A ca, IsL W A (nd Na) Na → Calls Tryd.prog 70 #[NumV na A Na ca ea] W (fun e w' => ∃ X, PX X ∧ NumOut nb X eb W e w'))) (F : Hid (∀ W X A c, PX X → IsL W A (nd X) X → Calls Tryd.prog 65 #[NumV nb A X c eb, .int .i64 m] W (RefOutB bt fl false W))) (hka0 : ((ka : Int) == 0) = false) (hka3 : ((ka : Int) == 3) = false) (w : World) :
    Calls Tryd.prog 51 #[.int .i64 8, .int .u64 a, .int .i64 m] w (RefOutB bt fl false w) := by
  go_enter Tryd.func51, Tryd.ntmps51
  go_wp2_with fail
  refine (Ka.out _).mono ?_
  rintro e w' ⟨rfl, rfl⟩
  go_wp2_with fail
  refine (Ea.out _).mono ?_
  rintro e w1 ⟨A1, c1, rfl, n1_, m1_, i1, hb1⟩
  go_wp2_with fail
  refine (P.out _ _ _ i1).mono ?_
  rintro e w3 ⟨X, hX, A3, c3, rfl, n3_, m3_, i3, hb3⟩
  clear i1
  go_wp2_with fail
  refine (F.out _ _ _ _ hX i3).mono ?_
  rintro e w4 ⟨rfl, hb4⟩
  have hz1 := hb1.size
  simp at hz1
  have hz3 := hb3.size
  have hBW := (hb1.trans (hb3.mono hb1.size)).trans (hb4.mono (Nat.le_trans hb1.size hb3.size))
  have hk_w4_0_0 : w4.cell? ⟨w.heap.size, 0, none⟩ = some (.int .u64 0) := (by rw [hBW.cell (p := ⟨w.heap.size, 0, none⟩) (by first | omega | (simp; done) | (simp; omega))]; go_simp; done)
  have hg_w4_0_0 : w4.frozen? ⟨w.heap.size, 0, none⟩ = false := (by rw [hBW.frozen (p := ⟨w.heap.size, 0, none⟩) (by first | omega | (simp; done) | (simp; omega))]; go_simp; done)
  have hk_w4_0_1 : w4.cell? ⟨w.heap.size, 1, none⟩ = some (.int .i64 0) := (by rw [hBW.cell (p := ⟨w.heap.size, 1, none⟩) (by first | omega | (simp; done) | (simp; omega))]; go_simp; done)
  have hg_w4_0_1 : w4.frozen? ⟨w.heap.size, 1, none⟩ = false := (by rw [hBW.frozen (p := ⟨w.heap.size, 1, none⟩) (by first | omega | (simp; done) | (simp; omega))]; go_simp; done)
  have hk_w4_0_2 : w4.cell? ⟨w.heap.size, 2, none⟩ = some (.bool false) := (by rw [hBW.cell (p := ⟨w.heap.size, 2, none⟩) (by first | omega | (simp; done) | (simp; omega))]; go_simp; done)
  have hg_w4_0_2 : w4.frozen? ⟨w.heap.size, 2, none⟩ = false := (by rw [hBW.frozen (p := ⟨w.heap.size, 2, none⟩) (by first | omega | (simp; done) | (simp; omega))]; go_simp; done)
  go_wp2_with fail
  all_goals refine bodyPost_ret (v := RV bt fl false) (by simp [results, Tryd.results51, go_sem, *]) rfl ⟨rfl, ?_⟩
  repeat' (first | with_reducible exact Below.refl _ _ | with_reducible assumption | with_reducible refine Below.drew ?_ | with_reducible refine bdrewN ?_ _ | with_reducible refine Below.alloc ?_ ?_ _ | with_reducible refine Below.setCell ?_ ?_ _ | with_reducible refine Below.trans ?_ (Below.mono (by assumption) ?_) | omega | (simp; done) | (simp; omega))
end Go.Proofs.YtldmbneckcjonaaDoor
namespace Go.Proofs.YtldmbneckcjonaaDoor
open Go.RowKit
theorem rroots6 (m a : Nat) (hm : m < 5) (ua : U64 a) (w : World) : Calls Tryd.prog 51 #[.int .i64 6, .int .u64 a, .int .i64 m] w (RefOutB (sqrtS m a).1 (sqrtS m a).2 false w) := by
  have Ka := Lib.hid (fun W => kind_any a ua W)
  have za := kind_zero (x := a)
  by_cases h1 : kindN a = 0
  · have e : sqrtS m a = (a, 0) := by unfold sqrtS; rw [if_pos h1]
    rw [e]; rw [h1] at Ka
    exact rroots_sz m a Ka w
  · cases hn : negU a with
    | true =>
      have e : sqrtS m a = (9221120237041090560, 16) := by unfold sqrtS; rw [if_neg h1, if_pos hn]
      rw [e]
      exact rroots_sn m a _ Ka ((neg_div a).trans hn) (nef (n := 0) h1) w
    | false =>
      by_cases h3 : kindN a = 3
      · have e : sqrtS m a = (a, 0) := by unfold sqrtS; rw [if_neg h1, if_neg (by rw [hn]; decide), if_pos h3]
        rw [e]; rw [h3] at Ka
        exact rroots_si m a Ka ((neg_div a).trans hn) w
      · have e : sqrtS m a = sqrtV m a := by unfold sqrtS; rw [if_neg h1, if_neg (by rw [hn]; decide), if_neg h3]
        rw [e]
        have ha : exN a ≠ 0 := by omega
        have b1 := exE_bounds a
        have b2 := exN_bl a
        obtain ⟨k, h, hkk, hk2, hkb⟩ : ∃ (k : Nat) (h : Int), ((k = 130 ∧ ((exE a - 130).tmod 2 != 0) = false ∧ wrap64 (exE a - 130) = exE a - 130 ∧ (exE a - 130).tdiv 2 = h) ∨ (k = 131 ∧ ((exE a - 130).tmod 2 != 0) = true ∧ wrap64 (exE a - 130) = exE a - 130 ∧ wrap64 (exE a - 131) = exE a - 131 ∧ (exE a - 131).tdiv 2 = h)) ∧ 2 * h = exE a - k ∧ (k = 130 ∨ k = 131) := by
          rcases (show (exE a - 130) % 2 = 0 ∨ (exE a - 130) % 2 = 1 by omega) with h | h
          · exact ⟨130, (exE a - 130) / 2, .inl ⟨rfl, tm_false h, wrap_in (by omega) (by omega), td_even h⟩, by omega, .inl rfl⟩
          · exact ⟨131, (exE a - 131) / 2, .inr ⟨rfl, tm_true (by omega), wrap_in (by omega) (by omega), wrap_in (by omega) (by omega), td_even (by omega)⟩, by omega, .inr rfl⟩
        have hbn : bl (exN a * 2 ^ k) = bl (exN a) + k := bl_shift ha
        have hn0 : exN a * 2 ^ k ≠ 0 := by have := Nat.mul_pos (Nat.pos_of_ne_zero ha) (Nat.two_pow_pos k); omega
        exact rroots_sg m a _ Ka ((neg_div a).trans hn) _ _ _ _ _ _ (h - 1) (fun n => ∃ X, IsRoot (exN a * 2 ^ k) X ∧ n = mk2 X (true && decide (X * X = exN a * 2 ^ k))) (fun W => rexact_any a ua W)
          (fun W A ca hA => (rsqrt_k _ A ca _ k _ h (h - 1) W hA (by unfold Sm; omega) hkk (wrap_in (by omega) (by omega)) (wrap_in (by omega) (by omega))).mono fun e w' hh => by
            obtain ⟨X, hX, ho⟩ := hh; exact ⟨_, ⟨X, hX, rfl⟩, ho⟩)
          (fun W n A c hPX hA => by
            obtain ⟨X, hX, rfl⟩ := hPX
            have hl := mk2_bl (w := (true && decide (X * X = exN a * 2 ^ k))) (root_le hX)
            have := finite_S (ng := false) (e := h - 1) (mk2_ne (w := (true && decide (X * X = exN a * 2 ^ k))) (root_pos hX hn0)) hm (by omega) (by omega) (by omega) W A c hA
            rw [sqrt_ref ha hk2 (by omega) (by omega) hX] at this
            exact this) (nef (n := 0) h1) (nef (n := 3) h3) w
theorem rroots7 (m a : Nat) (hm : m < 5) (ua : U64 a) (w : World) : Calls Tryd.prog 51 #[.int .i64 7, .int .u64 a, .int .i64 m] w (RefOutB (rsqrtS m a).1 (rsqrtS m a).2 false w) := by
  have Ka := Lib.hid (fun W => kind_any a ua W)
  have za := kind_zero (x := a)
  by_cases h1 : kindN a = 0
  · have e : rsqrtS m a = (signN (negU a) + 9218868437227405312, 8) := by unfold rsqrtS; rw [if_pos h1]
    rw [e]; rw [h1] at Ka
    have hor := or_sign (negU a) 9218868437227405312 (by omega)
    rw [← kind0_sign ua h1] at hor
    rw [← kind0_sign ua h1]
    exact rroots_rz m a Ka _ hor w
  · cases hn : negU a with
    | true =>
      have e : rsqrtS m a = (9221120237041090560, 16) := by unfold rsqrtS; rw [if_neg h1, if_pos hn]
      rw [e]
      exact rroots_rn m a _ Ka ((neg_div a).trans hn) (nef (n := 0) h1) w
    | false =>
      by_cases h3 : kindN a = 3
      · have e : rsqrtS m a = (0, 0) := by unfold rsqrtS; rw [if_neg h1, if_neg (by rw [hn]; decide), if_pos h3]
        rw [e]; rw [h3] at Ka
        exact rroots_ri m a Ka ((neg_div a).trans hn) w
      · have e : rsqrtS m a = rsqrtV m a := by unfold rsqrtS; rw [if_neg h1, if_neg (by rw [hn]; decide), if_neg h3]
        rw [e]
        have ha : exN a ≠ 0 := by omega
        have b1 := exE_bounds a
        have b2 := exN_bl a
        obtain ⟨K0, hK0⟩ : ∃ K0 : Nat, K0 = 240 + bl (exN a) := ⟨_, rfl⟩
        obtain ⟨k, h, hkk, hk2, hkb⟩ : ∃ (k : Nat) (h : Int), ((k = K0 ∧ ((exE a + K0).tmod 2 != 0) = false ∧ wrap64 (exE a + K0) = exE a + K0 ∧ wrap64 (-(K0 : Int) - exE a) = -(K0 : Int) - exE a ∧ (-(K0 : Int) - exE a).tdiv 2 = h) ∨ (k = K0 + 1 ∧ ((exE a + K0).tmod 2 != 0) = true ∧ wrap64 (exE a + K0) = exE a + K0 ∧ wrap64 (-((K0 : Int) + 1) - exE a) = -((K0 : Int) + 1) - exE a ∧ (-((K0 : Int) + 1) - exE a).tdiv 2 = h)) ∧ 2 * h = -(k : Int) - exE a ∧ (k = K0 ∨ k = K0 + 1) := by
          rcases (show (exE a + K0) % 2 = 0 ∨ (exE a + K0) % 2 = 1 by omega) with h | h
          · exact ⟨K0, (-(K0 : Int) - exE a) / 2, .inl ⟨rfl, tm_false h, wrap_in (by omega) (by omega), wrap_in (by omega) (by omega), td_even (by omega)⟩, by omega, .inl rfl⟩
          · exact ⟨K0 + 1, (-((K0 : Int) + 1) - exE a) / 2, .inr ⟨rfl, tm_true (by omega), wrap_in (by omega) (by omega), wrap_in (by omega) (by omega), td_even (by omega)⟩, by omega, .inr rfl⟩
        have hbp := bl_pow k
        have hn0 : 2 ^ k / exN a ≠ 0 := by
          have h2 : exN a ≤ 2 ^ k := Nat.le_trans (Nat.le_of_lt (bl_le.1 (Nat.le_refl _))) (Nat.pow_le_pow_right (by decide) (by omega))
          have := Nat.div_pos h2 (Nat.pos_of_ne_zero ha)
          omega
        have hdl : bl (2 ^ k / exN a) ≤ bl (2 ^ k) := bl_mono (Nat.div_le_self _ _)
        exact rroots_rg m a _ Ka ((neg_div a).trans hn) _ _ _ _ _ _ (h - 1) (fun n => ∃ X, IsRoot (2 ^ k / exN a) X ∧ n = mk2 X (decide (2 ^ k % exN a = 0) && decide (X * X = 2 ^ k / exN a))) (fun W => rexact_any a ua W)
          (fun W A ca hA => (rrecip_k _ A ca _ k K0 _ h (h - 1) W hA (by unfold Sm; omega) (by omega) (by unfold Sm; omega) (by omega) (by omega) (by omega) hkk (wrap_in (by omega) (by omega)) (wrap_in (by omega) (by omega))).mono fun e w' hh => by
            obtain ⟨X, hX, ho⟩ := hh; exact ⟨_, ⟨X, hX, rfl⟩, ho⟩)
          (fun W n A c hPX hA => by
            obtain ⟨X, hX, rfl⟩ := hPX
            have hl := mk2_bl (w := (decide (2 ^ k % exN a = 0) && decide (X * X = 2 ^ k / exN a))) (root_le hX)
            have := finite_S (ng := false) (e := h - 1) (mk2_ne (w := (decide (2 ^ k % exN a = 0) && decide (X * X = 2 ^ k / exN a))) (root_pos hX hn0)) hm (by omega) (by omega) (by omega) W A c hA
            rw [rsqrt_ref ha hk2 (by omega) (by omega) hX] at this
            exact this) (nef (n := 0) h1) (nef (n := 3) h3) w
theorem rroots8 (m a : Nat) (hm : m < 5) (ua : U64 a) (w : World) : Calls Tryd.prog 51 #[.int .i64 8, .int .u64 a, .int .i64 m] w (RefOutB (cbrtS m a).1 (cbrtS m a).2 false w) := by
  have Ka := Lib.hid (fun W => kind_any a ua W)
  have za := kind_zero (x := a)
  by_cases h1 : kindN a = 3
  · have e : cbrtS m a = (a, 0) := by unfold cbrtS; rw [if_pos (.inl h1)]
    rw [e]; rw [h1] at Ka
    exact rroots_ci m a Ka w
  · by_cases h3 : kindN a = 0
    · have e : cbrtS m a = (a, 0) := by unfold cbrtS; rw [if_pos (.inr h3)]
      rw [e]; rw [h3] at Ka
      exact rroots_cz m a Ka w
    · have e : cbrtS m a = cbrtV m a := by unfold cbrtS; rw [if_neg (by omega)]
      rw [e]
      have ha : exN a ≠ 0 := by omega
      have b1 := exE_bounds a
      have b2 := exN_bl a
      obtain ⟨c1, c2, c3⟩ := cbK_mod a
      have hck : cbK a = 190 + ((exE a - 190) % 3).toNat := rfl
      obtain ⟨h, hh⟩ : ∃ h : Int, h = (exE a - cbK a) / 3 := ⟨_, rfl⟩
      have hbn : bl (exN a * 2 ^ cbK a) = bl (exN a) + cbK a := bl_shift ha
      have hn0 : exN a * 2 ^ cbK a ≠ 0 := by have := Nat.mul_pos (Nat.pos_of_ne_zero ha) (Nat.two_pow_pos (cbK a)); omega
      exact rroots_cg m a _ Ka _ _ _ _ _ _ (h - 1) (fun n => ∃ X, IsCb (exN a * 2 ^ cbK a) X ∧ n = mk2 X (decide (X * (X * X) = exN a * 2 ^ cbK a))) (fun W => rexact_any a ua W)
        (fun W A ca hA => (rcbrt_k _ A ca _ (cbK a) _ h (h - 1) W hA (by unfold Sm; omega) c2 c3 (fun j h1 h2 => tm_true (by omega)) (tm_false c1) (fun j hj => wrap_in (by omega) (by omega)) (by rw [hh]; exact td_even c1) (wrap_in (by omega) (by omega)) (wrap_in (by omega) (by omega))).mono fun e w' hh => by
          obtain ⟨X, hX, ho⟩ := hh; exact ⟨_, ⟨X, hX, rfl⟩, ho⟩)
        (fun W n A c hPX hA => by
          obtain ⟨X, hX, rfl⟩ := hPX
          have hl := mk2_bl (w := decide (X * (X * X) = exN a * 2 ^ cbK a)) (cb_le hX)
          have := finite_S (ng := negU a) (e := h - 1) (mk2_ne (w := decide (X * (X * X) = exN a * 2 ^ cbK a)) (cb_pos hX hn0)) hm (by omega) (by omega) (by omega) W A c hA
          rw [hh, cbrt_ref hX, ← hh] at this
          exact this) (nef (n := 0) h3) (nef (n := 3) h1) w
end Go.Proofs.YtldmbneckcjonaaDoor
namespace Go.Proofs.YtldmbneckcjonaaDoor
open Go.RowKit
theorem sqrtS_fl (m a : Nat) : (sqrtS m a).2 < 256 := by
  unfold sqrtS; split; exact (by decide : (0 : Nat) < 256); split; exact (by decide : (16 : Nat) < 256); split; exact (by decide : (0 : Nat) < 256); exact roundS_fl _ _ _ _ _
theorem rsqrtS_fl (m a : Nat) : (rsqrtS m a).2 < 256 := by
  unfold rsqrtS; split; exact (by decide : (8 : Nat) < 256); split; exact (by decide : (16 : Nat) < 256); split; exact (by decide : (0 : Nat) < 256); exact roundS_fl _ _ _ _ _
theorem cbrtS_fl (m a : Nat) : (cbrtS m a).2 < 256 := by
  unfold cbrtS; split; exact (by decide : (0 : Nat) < 256); exact roundS_fl _ _ _ _ _
theorem agree_6 {m a b c : Nat} (ua : U64 a) (ub : U64 b) (uc : U64 c) : Agree 6 m a b c :=
  agree_op (by decide) (by decide) (fun args w => Tryd.call135 args w) ua ub uc fun hm hN =>
    ⟨_, _, sqrtS_fl m a, fun W => sqrt_any 6 m a b c hm ua W, fun hR W => rDo_6 m a b c _ _ (by omega) ua ub uc hR (fun W => rroots6 m a hm ua W) W⟩
theorem agree_7 {m a b c : Nat} (ua : U64 a) (ub : U64 b) (uc : U64 c) : Agree 7 m a b c :=
  agree_op (by decide) (by decide) (fun args w => Tryd.call136 args w) ua ub uc fun hm hN =>
    ⟨_, _, rsqrtS_fl m a, fun W => rsqrt_any 7 m a b c hm ua W, fun hR W => rDo_7 m a b c _ _ (by omega) ua ub uc hR (fun W => rroots7 m a hm ua W) W⟩
theorem agree_8 {m a b c : Nat} (ua : U64 a) (ub : U64 b) (uc : U64 c) : Agree 8 m a b c :=
  agree_op (by decide) (by decide) (fun args w => Tryd.call137 args w) ua ub uc fun hm hN =>
    ⟨_, _, cbrtS_fl m a, fun W => cbrt_any 8 m a b c hm ua W, fun hR W => rDo_8 m a b c _ _ (by omega) ua ub uc hR (fun W => rroots8 m a hm ua W) W⟩
set_option maxRecDepth 100000 in
set_option maxHeartbeats 400000 in
theorem Roots_any (A : Option Addr) (len cap : Nat) (hl : len ≤ maxLen) (w : World) (hT : TableAt w) (hst : StepsIn w A len) :
    Calls Tryd.prog 11 #[.slice A len cap] w fun e w' => e = .returned (.bool true) ∧ Below w.heap.size w w' := by
  have C1 := Lib.hid (fun W hT hst => of_any A len cap 6 8 hl W hT hst fun o m a b c ho _ h1 h2 ua ub uc => by
    rcases (show o = 6 ∨ o = 7 ∨ o = 8 by omega) with rfl | rfl | rfl
    · exact agree_6 ua ub uc
    · exact agree_7 ua ub uc
    · exact agree_8 ua ub uc)
  replace hst := Lib.hid hst
  replace hT := Lib.hid hT
  clear hl
  go_enter Tryd.func11, Tryd.ntmps11
  go_wp2_with fail
  refine (C1.out _ hT.out hst.out).mono ?_
  rintro e w1 ⟨rfl, hb1⟩
  go_wp2_with fail
  go_ret
  exact ⟨rfl, hb1⟩
end Go.Proofs.YtldmbneckcjonaaDoor
namespace Go.Proofs.YtldmbneckcjonaaDoor
open Go.RowKit Go.WideShapes Go.ChangeShapes Go.ChangeAt
set_option maxRecDepth 100000 in
theorem roots_lifted (os : Os) (started : os.Started) (H : Type) (enc : TypeId × Value → H) :
    ReturnsInHanded {} Tryd.checked os 11 .any (fun w args => (Rows.rootsSpec.pre enc Tryd.prog Tryd.f11 [] false w args ∧ laidMetH Tryd.prog laidL w) ∧ sizedMet enc Tryd.prog Tryd.f11 (OpenSpec.ofChange Rows.rootsSpec) false w args)
      (Rows.rootsSpec.post enc Tryd.prog Tryd.f11 false true false false) := by
  refine returnsInHanded_of_change_and (C := Tryd.checked) (X := fun w _ => laidMetH Tryd.prog laidL w) (fun _ _ _ hh h => h.of_heap hh) own started (by kernel_rfl) Tryd.func11
    (ChangeSpec.witness_shaped (enc := enc) (C := Tryd.checked) (os := os) (X := fun w _ => laidMetH Tryd.prog laidL w) false (World.doorLaid Tryd.prog 600 os) #[.slice none 0 0] 8 rfl (World.shaped_of_RefB (by kernel_rfl) (by kernel_rfl)) (by kernel_rfl) (by kernel_rfl) (by kernel_rfl) (door_met os _)) ?_
  intro W base args ds gs before hval hW _ _ hL _
  obtain ⟨A, len, cap, rfl, hl, hst, fin⟩ := law_shut (nm := "roots") (f := Tryd.f11) rfl rfl (fun j t v h1 h2 => .inr ⟨base, hval j t v h1 h2⟩) hW
  refine (Roots_any A len cap hl W (of_laid hL) (stepsIn_of hst)).mono fun e W' ⟨he, hw⟩ => ?_
  subst he
  exact ⟨_, rfl, fin W' hw⟩
theorem roots_holds : Rows.RootsSaid :=
  OpenClaim.holds_of_wide_leaving 11 Tryd.f11 rfl rfl rfl rfl rfl rfl rfl ⟨rfl, rfl, rfl, rfl, rfl⟩ rfl rfl rfl rfl rfl (by kernel_rfl) Tryd.func11 (by kernel_rfl)
    (of_decide_eq_true (by kernel_rfl)) (by unfold Func.isWrapper; first | (rw [if_pos (by decide +kernel)]; kernel_rfl) | (rw [if_neg (by decide +kernel)]; exact ⟨rfl, rfl⟩))
    (fun os started H enc _ => leaving_of_handed (roots_lifted os started H enc))
theorem roots_card_holds : Rows.RootsCardSaid :=
  holds_tied_goes .later [.funcs] true (true, "6c2333d7cfd43ffcebf9976d2fa59ef1805734a55d7131f269abed5f0ab20e77") false roots_holds (by kernel_rfl) roots_row_tie rfl ⟨rfl, rfl⟩ (by kernel_rfl) rfl
    (fun f fn hf hfn => by
      obtain rfl : f = 11 := Option.some.inj ((show Tryd.prog.funcNamed "softfloat/softfloatlaw.Roots" = some 11 by kernel_rfl).symm.trans hf) |>.symm
      obtain rfl : fn = Tryd.f11 := (Option.some.inj (Tryd.func11.symm.trans hfn)).symm
      exact ⟨by kernel_rfl, fun j t ht => by
        have hp : Tryd.f11.params = #[22] := rfl
        rw [hp] at ht
        have hm : t ∈ [22] := by simpa using Array.mem_of_getElem? ht
        have hall : ([22].all fun u => !Tryd.prog.wantsStandIn u) = true := by kernel_rfl
        exact (show Tryd.prog.wantsStandIn t = false by simpa using List.all_eq_true.1 hall t hm)⟩)
    (by kernel_rfl)
#print axioms roots_card_holds
end Go.Proofs.YtldmbneckcjonaaDoor
