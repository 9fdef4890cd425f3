/- Several texts in one: softfloatref.added, softfloatref.addition. · softfloatref.addition, whole; the law Sums. · Sums: for every script the law returns true and leaves its argument as it was. Condition: the table of operations is as the program's text lays it, which the card's tie shows. -/
import Derived.Test.YtldmbneckcjonaaDoorGH
import Derived.Test.YtldmbneckcjonaaDoorGI
import Derived.Test.YtldmbneckcjonaaDoorGL
import Derived.Test.YtldmbneckcjonaaDoorGM
import Derived.Test.YtldmbneckcjonaaDoorGJ
import Derived.Test.YtldmbneckcjonaaDoorCards
set_option linter.unusedVariables false
set_option linter.unusedSimpArgs false
namespace Go.Proofs.YtldmbneckcjonaaDoor
open Go.RowKit
set_option maxRecDepth 100000 in
set_option maxHeartbeats 2000000 in
theorem radded_A (n1 n2 ns : Bool) (A B : Option Addr) (ca cb a b N m bt fl : Nat) (e1 e2 Es : Int) (w : World) (hA : IsL w A (nd a) a) (hB : IsL w B (nd b) b)
    (S : Hid (∀ W, IsL W A (nd a) a → IsL W B (nd b) b → Calls Tryd.prog 69 #[NumV n1 A a ca e1, NumV n2 B b cb e2] W (NumOut ns N Es W))) (hN : decide (0 < nd N) = true)
    (F : Hid (∀ W X c, IsL W X (nd N) N → Calls Tryd.prog 65 #[NumV ns X N c Es, .int .i64 m] W (RefOutB bt fl false W))) :
    Calls Tryd.prog 63 #[NumV n1 A a ca e1, NumV n2 B b cb e2, .int .i64 m] w (RefOutB bt fl false w) := by
  have hBW := Below.refl (((w.alloc (.cells #[.bool n1, .slice A (nd a) ca, .int .i64 e1] 119)).alloc (.cells #[.bool n2, .slice B (nd b) cb, .int .i64 e2] 119)).alloc BOXR).heap.size (((w.alloc (.cells #[.bool n1, .slice A (nd a) ca, .int .i64 e1] 119)).alloc (.cells #[.bool n2, .slice B (nd b) cb, .int .i64 e2] 119)).alloc BOXR)
  have hB0 : Below w.heap.size w (((w.alloc (.cells #[.bool n1, .slice A (nd a) ca, .int .i64 e1] 119)).alloc (.cells #[.bool n2, .slice B (nd b) cb, .int .i64 e2] 119)).alloc BOXR) := (((Below.refl _ w).alloc (by simp) _).alloc (by simp) _).alloc (by simp; omega) _
  have hA1 := hA.below (Nat.le_refl _) hB0
  have hB1 := hB.below (Nat.le_refl _) hB0
  go_enter Tryd.func63, Tryd.ntmps63
  go_wp2_with fail
  refine (S.out _ hA1 hB1).mono ?_
  rintro e w1 ⟨X, c, rfl, n1_, n2_, i1, hb_⟩
  replace hBW := hBW.trans (hb_.mono hBW.size)
  have hz : w.heap.size + 3 ≤ w1.heap.size := by have := hb_.size; simp at this; omega
  have hl0 : w.heap.size < w1.heap.size := by omega
  have hl1 : w.heap.size + 1 < w1.heap.size := by omega
  have hl2 : w.heap.size + 1 + 1 < w1.heap.size := by omega
  clear hb_ S hA hB hA1 hB1
  have hk_w1_0_0 : w1.cell? ⟨w.heap.size, 0, none⟩ = some (.bool n1) := (by rw [hBW.cell (p := ⟨w.heap.size, 0, none⟩) (by first | omega | (simp; done) | (simp; omega))]; go_simp; done)
  have hk_w1_0_1 : w1.cell? ⟨w.heap.size, 1, none⟩ = some (.slice A (nd a) ca) := (by rw [hBW.cell (p := ⟨w.heap.size, 1, none⟩) (by first | omega | (simp; done) | (simp; omega))]; go_simp; done)
  have hk_w1_0_2 : w1.cell? ⟨w.heap.size, 2, none⟩ = some (.int .i64 e1) := (by rw [hBW.cell (p := ⟨w.heap.size, 2, none⟩) (by first | omega | (simp; done) | (simp; omega))]; go_simp; done)
  have hk_w1_1_0 : w1.cell? ⟨w.heap.size + 1, 0, none⟩ = some (.bool n2) := (by rw [hBW.cell (p := ⟨w.heap.size + 1, 0, none⟩) (by first | omega | (simp; done) | (simp; omega))]; go_simp; done)
  have hk_w1_1_1 : w1.cell? ⟨w.heap.size + 1, 1, none⟩ = some (.slice B (nd b) cb) := (by rw [hBW.cell (p := ⟨w.heap.size + 1, 1, none⟩) (by first | omega | (simp; done) | (simp; omega))]; go_simp; done)
  have hk_w1_1_2 : w1.cell? ⟨w.heap.size + 1, 2, none⟩ = some (.int .i64 e2) := (by rw [hBW.cell (p := ⟨w.heap.size + 1, 2, none⟩) (by first | omega | (simp; done) | (simp; omega))]; go_simp; done)
  have hk_w1_2_0 : w1.cell? ⟨w.heap.size + 1 + 1, 0, none⟩ = some (.int .u64 0) := (by rw [hBW.cell (p := ⟨w.heap.size + 1 + 1, 0, none⟩) (by first | omega | (simp; done) | (simp; omega))]; go_simp; done)
  have hg_w1_2_0 : w1.frozen? ⟨w.heap.size + 1 + 1, 0, none⟩ = false := (by rw [hBW.frozen (p := ⟨w.heap.size + 1 + 1, 0, none⟩) (by first | omega | (simp; done) | (simp; omega))]; go_simp; done)
  have hk_w1_2_1 : w1.cell? ⟨w.heap.size + 1 + 1, 1, none⟩ = some (.int .i64 0) := (by rw [hBW.cell (p := ⟨w.heap.size + 1 + 1, 1, none⟩) (by first | omega | (simp; done) | (simp; omega))]; go_simp; done)
  have hg_w1_2_1 : w1.frozen? ⟨w.heap.size + 1 + 1, 1, none⟩ = false := (by rw [hBW.frozen (p := ⟨w.heap.size + 1 + 1, 1, none⟩) (by first | omega | (simp; done) | (simp; omega))]; go_simp; done)
  have hk_w1_2_2 : w1.cell? ⟨w.heap.size + 1 + 1, 2, none⟩ = some (.bool false) := (by rw [hBW.cell (p := ⟨w.heap.size + 1 + 1, 2, none⟩) (by first | omega | (simp; done) | (simp; omega))]; go_simp; done)
  have hg_w1_2_2 : w1.frozen? ⟨w.heap.size + 1 + 1, 2, none⟩ = false := (by rw [hBW.frozen (p := ⟨w.heap.size + 1 + 1, 2, none⟩) (by first | omega | (simp; done) | (simp; omega))]; go_simp; done)
  have hB2 := hB0.trans (hBW.mono hB0.size)
  go_wp2_with fail
  refine (F.out _ _ _ (i1.below (Nat.le_refl _) ?_)).mono ?_
  · repeat' (first | with_reducible exact Below.refl _ _ | with_reducible assumption | with_reducible refine Below.drew ?_ | with_reducible refine bdrewN ?_ _ | with_reducible refine Below.alloc ?_ ?_ _ | with_reducible refine Below.setCell ?_ ?_ _ | with_reducible refine Below.trans ?_ (Below.mono (by assumption) ?_) | omega | (simp; done) | (simp; omega))
  rintro e w2 ⟨rfl, hb2⟩
  have hz2 := hb2.size
  simp at hz2
  have hk2_0 : w2.cell? ⟨w.heap.size + 1 + 1, 0, none⟩ = some (.int .u64 0) := by rw [hb2.cell (by first | (simp; done) | (simp; omega))]; go_simp; done
  have hk2_1 : w2.cell? ⟨w.heap.size + 1 + 1, 1, none⟩ = some (.int .i64 0) := by rw [hb2.cell (by first | (simp; done) | (simp; omega))]; go_simp; done
  have hk2_2 : w2.cell? ⟨w.heap.size + 1 + 1, 2, none⟩ = some (.bool false) := by rw [hb2.cell (by first | (simp; done) | (simp; omega))]; go_simp; done
  have hg2_0 : w2.frozen? ⟨w.heap.size + 1 + 1, 0, none⟩ = false := by rw [hb2.frozen (by first | (simp; done) | (simp; omega))]; go_simp; done
  have hg2_1 : w2.frozen? ⟨w.heap.size + 1 + 1, 1, none⟩ = false := by rw [hb2.frozen (by first | (simp; done) | (simp; omega))]; go_simp; done
  have hg2_2 : w2.frozen? ⟨w.heap.size + 1 + 1, 2, none⟩ = false := by rw [hb2.frozen (by first | (simp; done) | (simp; omega))]; go_simp; done
  go_wp2_with fail
  refine bodyPost_ret (v := RV bt fl false) (by simp [results, Tryd.results63, go_sem, *]) rfl ⟨rfl, ?_⟩
  repeat' (first | with_reducible exact Below.refl _ _ | with_reducible assumption | with_reducible refine Below.drew ?_ | with_reducible refine bdrewN ?_ _ | with_reducible refine Below.alloc ?_ ?_ _ | with_reducible refine Below.setCell ?_ ?_ _ | with_reducible refine Below.trans ?_ (Below.mono (by assumption) ?_) | omega | (simp; done) | (simp; omega))
set_option maxRecDepth 100000 in
set_option maxHeartbeats 2000000 in
theorem radded_B0 (n1 n2 ns : Bool) (A B : Option Addr) (ca cb a b N m bt fl : Nat) (e1 e2 Es : Int) (w : World) (hA : IsL w A (nd a) a) (hB : IsL w B (nd b) b)
    (S : Hid (∀ W, IsL W A (nd a) a → IsL W B (nd b) b → Calls Tryd.prog 69 #[NumV n1 A a ca e1, NumV n2 B b cb e2] W (NumOut ns N Es W))) (hN : decide (0 < nd N) = false) (za : ((nd a : Int) == 0) = true) (zb : ((nd b : Int) == 0) = true) (hn : (n1 == n2) = true) :
    Calls Tryd.prog 63 #[NumV n1 A a ca e1, NumV n2 B b cb e2, .int .i64 m] w (RefOutB (signN n1) 0 false w) := by
  have hBW := Below.refl (((w.alloc (.cells #[.bool n1, .slice A (nd a) ca, .int .i64 e1] 119)).alloc (.cells #[.bool n2, .slice B (nd b) cb, .int .i64 e2] 119)).alloc BOXR).heap.size (((w.alloc (.cells #[.bool n1, .slice A (nd a) ca, .int .i64 e1] 119)).alloc (.cells #[.bool n2, .slice B (nd b) cb, .int .i64 e2] 119)).alloc BOXR)
  have hB0 : Below w.heap.size w (((w.alloc (.cells #[.bool n1, .slice A (nd a) ca, .int .i64 e1] 119)).alloc (.cells #[.bool n2, .slice B (nd b) cb, .int .i64 e2] 119)).alloc BOXR) := (((Below.refl _ w).alloc (by simp) _).alloc (by simp) _).alloc (by simp; omega) _
  have hA1 := hA.below (Nat.le_refl _) hB0
  have hB1 := hB.below (Nat.le_refl _) hB0
  go_enter Tryd.func63, Tryd.ntmps63
  go_wp2_with fail
  refine (S.out _ hA1 hB1).mono ?_
  rintro e w1 ⟨X, c, rfl, n1_, n2_, i1, hb_⟩
  replace hBW := hBW.trans (hb_.mono hBW.size)
  have hz : w.heap.size + 3 ≤ w1.heap.size := by have := hb_.size; simp at this; omega
  have hl0 : w.heap.size < w1.heap.size := by omega
  have hl1 : w.heap.size + 1 < w1.heap.size := by omega
  have hl2 : w.heap.size + 1 + 1 < w1.heap.size := by omega
  clear hb_ S hA hB hA1 hB1
  have hk_w1_0_0 : w1.cell? ⟨w.heap.size, 0, none⟩ = some (.bool n1) := (by rw [hBW.cell (p := ⟨w.heap.size, 0, none⟩) (by first | omega | (simp; done) | (simp; omega))]; go_simp; done)
  have hk_w1_0_1 : w1.cell? ⟨w.heap.size, 1, none⟩ = some (.slice A (nd a) ca) := (by rw [hBW.cell (p := ⟨w.heap.size, 1, none⟩) (by first | omega | (simp; done) | (simp; omega))]; go_simp; done)
  have hk_w1_0_2 : w1.cell? ⟨w.heap.size, 2, none⟩ = some (.int .i64 e1) := (by rw [hBW.cell (p := ⟨w.heap.size, 2, none⟩) (by first | omega | (simp; done) | (simp; omega))]; go_simp; done)
  have hk_w1_1_0 : w1.cell? ⟨w.heap.size + 1, 0, none⟩ = some (.bool n2) := (by rw [hBW.cell (p := ⟨w.heap.size + 1, 0, none⟩) (by first | omega | (simp; done) | (simp; omega))]; go_simp; done)
  have hk_w1_1_1 : w1.cell? ⟨w.heap.size + 1, 1, none⟩ = some (.slice B (nd b) cb) := (by rw [hBW.cell (p := ⟨w.heap.size + 1, 1, none⟩) (by first | omega | (simp; done) | (simp; omega))]; go_simp; done)
  have hk_w1_1_2 : w1.cell? ⟨w.heap.size + 1, 2, none⟩ = some (.int .i64 e2) := (by rw [hBW.cell (p := ⟨w.heap.size + 1, 2, none⟩) (by first | omega | (simp; done) | (simp; omega))]; go_simp; done)
  have hk_w1_2_0 : w1.cell? ⟨w.heap.size + 1 + 1, 0, none⟩ = some (.int .u64 0) := (by rw [hBW.cell (p := ⟨w.heap.size + 1 + 1, 0, none⟩) (by first | omega | (simp; done) | (simp; omega))]; go_simp; done)
  have hg_w1_2_0 : w1.frozen? ⟨w.heap.size + 1 + 1, 0, none⟩ = false := (by rw [hBW.frozen (p := ⟨w.heap.size + 1 + 1, 0, none⟩) (by first | omega | (simp; done) | (simp; omega))]; go_simp; done)
  have hk_w1_2_1 : w1.cell? ⟨w.heap.size + 1 + 1, 1, none⟩ = some (.int .i64 0) := (by rw [hBW.cell (p := ⟨w.heap.size + 1 + 1, 1, none⟩) (by first | omega | (simp; done) | (simp; omega))]; go_simp; done)
  have hg_w1_2_1 : w1.frozen? ⟨w.heap.size + 1 + 1, 1, none⟩ = false := (by rw [hBW.frozen (p := ⟨w.heap.size + 1 + 1, 1, none⟩) (by first | omega | (simp; done) | (simp; omega))]; go_simp; done)
  have hk_w1_2_2 : w1.cell? ⟨w.heap.size + 1 + 1, 2, none⟩ = some (.bool false) := (by rw [hBW.cell (p := ⟨w.heap.size + 1 + 1, 2, none⟩) (by first | omega | (simp; done) | (simp; omega))]; go_simp; done)
  have hg_w1_2_2 : w1.frozen? ⟨w.heap.size + 1 + 1, 2, none⟩ = false := (by rw [hBW.frozen (p := ⟨w.heap.size + 1 + 1, 2, none⟩) (by first | omega | (simp; done) | (simp; omega))]; go_simp; done)
  have hB2 := hB0.trans (hBW.mono hB0.size)
  go_wp2_with (go_at_call 93; refine (rsign_any _ _).mono ?_; rintro e w' ⟨rfl, rfl⟩)
  refine bodyPost_ret (v := RV (signN n1) 0 false) (by simp [results, Tryd.results63, go_sem, *]) rfl ⟨rfl, ?_⟩
  repeat' (first | with_reducible exact Below.refl _ _ | with_reducible assumption | with_reducible refine Below.drew ?_ | with_reducible refine bdrewN ?_ _ | with_reducible refine Below.alloc ?_ ?_ _ | with_reducible refine Below.setCell ?_ ?_ _ | with_reducible refine Below.trans ?_ (Below.mono (by assumption) ?_) | omega | (simp; done) | (simp; omega))
set_option maxRecDepth 100000 in
set_option maxHeartbeats 2000000 in
theorem radded_B1 (n1 n2 ns : Bool) (A B : Option Addr) (ca cb a b N m bt fl : Nat) (e1 e2 Es : Int) (w : World) (hA : IsL w A (nd a) a) (hB : IsL w B (nd b) b)
    (S : Hid (∀ W, IsL W A (nd a) a → IsL W B (nd b) b → Calls Tryd.prog 69 #[NumV n1 A a ca e1, NumV n2 B b cb e2] W (NumOut ns N Es W))) (hN : decide (0 < nd N) = false) (za : ((nd a : Int) == 0) = false) (m4 : Bool) (hm4 : ((m : Int) == 4) = m4) :
    Calls Tryd.prog 63 #[NumV n1 A a ca e1, NumV n2 B b cb e2, .int .i64 m] w (RefOutB (signN m4) 0 false w) := by
  have hBW := Below.refl (((w.alloc (.cells #[.bool n1, .slice A (nd a) ca, .int .i64 e1] 119)).alloc (.cells #[.bool n2, .slice B (nd b) cb, .int .i64 e2] 119)).alloc BOXR).heap.size (((w.alloc (.cells #[.bool n1, .slice A (nd a) ca, .int .i64 e1] 119)).alloc (.cells #[.bool n2, .slice B (nd b) cb, .int .i64 e2] 119)).alloc BOXR)
  have hB0 : Below w.heap.size w (((w.alloc (.cells #[.bool n1, .slice A (nd a) ca, .int .i64 e1] 119)).alloc (.cells #[.bool n2, .slice B (nd b) cb, .int .i64 e2] 119)).alloc BOXR) := (((Below.refl _ w).alloc (by simp) _).alloc (by simp) _).alloc (by simp; omega) _
  have hA1 := hA.below (Nat.le_refl _) hB0
  have hB1 := hB.below (Nat.le_refl _) hB0
  go_enter Tryd.func63, Tryd.ntmps63
  go_wp2_with fail
  refine (S.out _ hA1 hB1).mono ?_
  rintro e w1 ⟨X, c, rfl, n1_, n2_, i1, hb_⟩
  replace hBW := hBW.trans (hb_.mono hBW.size)
  have hz : w.heap.size + 3 ≤ w1.heap.size := by have := hb_.size; simp at this; omega
  have hl0 : w.heap.size < w1.heap.size := by omega
  have hl1 : w.heap.size + 1 < w1.heap.size := by omega
  have hl2 : w.heap.size + 1 + 1 < w1.heap.size := by omega
  clear hb_ S hA hB hA1 hB1
  have hk_w1_0_0 : w1.cell? ⟨w.heap.size, 0, none⟩ = some (.bool n1) := (by rw [hBW.cell (p := ⟨w.heap.size, 0, none⟩) (by first | omega | (simp; done) | (simp; omega))]; go_simp; done)
  have hk_w1_0_1 : w1.cell? ⟨w.heap.size, 1, none⟩ = some (.slice A (nd a) ca) := (by rw [hBW.cell (p := ⟨w.heap.size, 1, none⟩) (by first | omega | (simp; done) | (simp; omega))]; go_simp; done)
  have hk_w1_0_2 : w1.cell? ⟨w.heap.size, 2, none⟩ = some (.int .i64 e1) := (by rw [hBW.cell (p := ⟨w.heap.size, 2, none⟩) (by first | omega | (simp; done) | (simp; omega))]; go_simp; done)
  have hk_w1_1_0 : w1.cell? ⟨w.heap.size + 1, 0, none⟩ = some (.bool n2) := (by rw [hBW.cell (p := ⟨w.heap.size + 1, 0, none⟩) (by first | omega | (simp; done) | (simp; omega))]; go_simp; done)
  have hk_w1_1_1 : w1.cell? ⟨w.heap.size + 1, 1, none⟩ = some (.slice B (nd b) cb) := (by rw [hBW.cell (p := ⟨w.heap.size + 1, 1, none⟩) (by first | omega | (simp; done) | (simp; omega))]; go_simp; done)
  have hk_w1_1_2 : w1.cell? ⟨w.heap.size + 1, 2, none⟩ = some (.int .i64 e2) := (by rw [hBW.cell (p := ⟨w.heap.size + 1, 2, none⟩) (by first | omega | (simp; done) | (simp; omega))]; go_simp; done)
  have hk_w1_2_0 : w1.cell? ⟨w.heap.size + 1 + 1, 0, none⟩ = some (.int .u64 0) := (by rw [hBW.cell (p := ⟨w.heap.size + 1 + 1, 0, none⟩) (by first | omega | (simp; done) | (simp; omega))]; go_simp; done)
  have hg_w1_2_0 : w1.frozen? ⟨w.heap.size + 1 + 1, 0, none⟩ = false := (by rw [hBW.frozen (p := ⟨w.heap.size + 1 + 1, 0, none⟩) (by first | omega | (simp; done) | (simp; omega))]; go_simp; done)
  have hk_w1_2_1 : w1.cell? ⟨w.heap.size + 1 + 1, 1, none⟩ = some (.int .i64 0) := (by rw [hBW.cell (p := ⟨w.heap.size + 1 + 1, 1, none⟩) (by first | omega | (simp; done) | (simp; omega))]; go_simp; done)
  have hg_w1_2_1 : w1.frozen? ⟨w.heap.size + 1 + 1, 1, none⟩ = false := (by rw [hBW.frozen (p := ⟨w.heap.size + 1 + 1, 1, none⟩) (by first | omega | (simp; done) | (simp; omega))]; go_simp; done)
  have hk_w1_2_2 : w1.cell? ⟨w.heap.size + 1 + 1, 2, none⟩ = some (.bool false) := (by rw [hBW.cell (p := ⟨w.heap.size + 1 + 1, 2, none⟩) (by first | omega | (simp; done) | (simp; omega))]; go_simp; done)
  have hg_w1_2_2 : w1.frozen? ⟨w.heap.size + 1 + 1, 2, none⟩ = false := (by rw [hBW.frozen (p := ⟨w.heap.size + 1 + 1, 2, none⟩) (by first | omega | (simp; done) | (simp; omega))]; go_simp; done)
  have hB2 := hB0.trans (hBW.mono hB0.size)
  go_wp2_with (go_at_call 93; refine (rsign_any _ _).mono ?_; rintro e w' ⟨rfl, rfl⟩)
  refine bodyPost_ret (v := RV (signN m4) 0 false) (by simp [results, Tryd.results63, go_sem, *]) rfl ⟨rfl, ?_⟩
  repeat' (first | with_reducible exact Below.refl _ _ | with_reducible assumption | with_reducible refine Below.drew ?_ | with_reducible refine bdrewN ?_ _ | with_reducible refine Below.alloc ?_ ?_ _ | with_reducible refine Below.setCell ?_ ?_ _ | with_reducible refine Below.trans ?_ (Below.mono (by assumption) ?_) | omega | (simp; done) | (simp; omega))
set_option maxRecDepth 100000 in
set_option maxHeartbeats 2000000 in
theorem radded_B2 (n1 n2 ns : Bool) (A B : Option Addr) (ca cb a b N m bt fl : Nat) (e1 e2 Es : Int) (w : World) (hA : IsL w A (nd a) a) (hB : IsL w B (nd b) b)
    (S : Hid (∀ W, IsL W A (nd a) a → IsL W B (nd b) b → Calls Tryd.prog 69 #[NumV n1 A a ca e1, NumV n2 B b cb e2] W (NumOut ns N Es W))) (hN : decide (0 < nd N) = false) (za : ((nd a : Int) == 0) = true) (zb : ((nd b : Int) == 0) = false) (m4 : Bool) (hm4 : ((m : Int) == 4) = m4) :
    Calls Tryd.prog 63 #[NumV n1 A a ca e1, NumV n2 B b cb e2, .int .i64 m] w (RefOutB (signN m4) 0 false w) := by
  have hBW := Below.refl (((w.alloc (.cells #[.bool n1, .slice A (nd a) ca, .int .i64 e1] 119)).alloc (.cells #[.bool n2, .slice B (nd b) cb, .int .i64 e2] 119)).alloc BOXR).heap.size (((w.alloc (.cells #[.bool n1, .slice A (nd a) ca, .int .i64 e1] 119)).alloc (.cells #[.bool n2, .slice B (nd b) cb, .int .i64 e2] 119)).alloc BOXR)
  have hB0 : Below w.heap.size w (((w.alloc (.cells #[.bool n1, .slice A (nd a) ca, .int .i64 e1] 119)).alloc (.cells #[.bool n2, .slice B (nd b) cb, .int .i64 e2] 119)).alloc BOXR) := (((Below.refl _ w).alloc (by simp) _).alloc (by simp) _).alloc (by simp; omega) _
  have hA1 := hA.below (Nat.le_refl _) hB0
  have hB1 := hB.below (Nat.le_refl _) hB0
  go_enter Tryd.func63, Tryd.ntmps63
  go_wp2_with fail
  refine (S.out _ hA1 hB1).mono ?_
  rintro e w1 ⟨X, c, rfl, n1_, n2_, i1, hb_⟩
  replace hBW := hBW.trans (hb_.mono hBW.size)
  have hz : w.heap.size + 3 ≤ w1.heap.size := by have := hb_.size; simp at this; omega
  have hl0 : w.heap.size < w1.heap.size := by omega
  have hl1 : w.heap.size + 1 < w1.heap.size := by omega
  have hl2 : w.heap.size + 1 + 1 < w1.heap.size := by omega
  clear hb_ S hA hB hA1 hB1
  have hk_w1_0_0 : w1.cell? ⟨w.heap.size, 0, none⟩ = some (.bool n1) := (by rw [hBW.cell (p := ⟨w.heap.size, 0, none⟩) (by first | omega | (simp; done) | (simp; omega))]; go_simp; done)
  have hk_w1_0_1 : w1.cell? ⟨w.heap.size, 1, none⟩ = some (.slice A (nd a) ca) := (by rw [hBW.cell (p := ⟨w.heap.size, 1, none⟩) (by first | omega | (simp; done) | (simp; omega))]; go_simp; done)
  have hk_w1_0_2 : w1.cell? ⟨w.heap.size, 2, none⟩ = some (.int .i64 e1) := (by rw [hBW.cell (p := ⟨w.heap.size, 2, none⟩) (by first | omega | (simp; done) | (simp; omega))]; go_simp; done)
  have hk_w1_1_0 : w1.cell? ⟨w.heap.size + 1, 0, none⟩ = some (.bool n2) := (by rw [hBW.cell (p := ⟨w.heap.size + 1, 0, none⟩) (by first | omega | (simp; done) | (simp; omega))]; go_simp; done)
  have hk_w1_1_1 : w1.cell? ⟨w.heap.size + 1, 1, none⟩ = some (.slice B (nd b) cb) := (by rw [hBW.cell (p := ⟨w.heap.size + 1, 1, none⟩) (by first | omega | (simp; done) | (simp; omega))]; go_simp; done)
  have hk_w1_1_2 : w1.cell? ⟨w.heap.size + 1, 2, none⟩ = some (.int .i64 e2) := (by rw [hBW.cell (p := ⟨w.heap.size + 1, 2, none⟩) (by first | omega | (simp; done) | (simp; omega))]; go_simp; done)
  have hk_w1_2_0 : w1.cell? ⟨w.heap.size + 1 + 1, 0, none⟩ = some (.int .u64 0) := (by rw [hBW.cell (p := ⟨w.heap.size + 1 + 1, 0, none⟩) (by first | omega | (simp; done) | (simp; omega))]; go_simp; done)
  have hg_w1_2_0 : w1.frozen? ⟨w.heap.size + 1 + 1, 0, none⟩ = false := (by rw [hBW.frozen (p := ⟨w.heap.size + 1 + 1, 0, none⟩) (by first | omega | (simp; done) | (simp; omega))]; go_simp; done)
  have hk_w1_2_1 : w1.cell? ⟨w.heap.size + 1 + 1, 1, none⟩ = some (.int .i64 0) := (by rw [hBW.cell (p := ⟨w.heap.size + 1 + 1, 1, none⟩) (by first | omega | (simp; done) | (simp; omega))]; go_simp; done)
  have hg_w1_2_1 : w1.frozen? ⟨w.heap.size + 1 + 1, 1, none⟩ = false := (by rw [hBW.frozen (p := ⟨w.heap.size + 1 + 1, 1, none⟩) (by first | omega | (simp; done) | (simp; omega))]; go_simp; done)
  have hk_w1_2_2 : w1.cell? ⟨w.heap.size + 1 + 1, 2, none⟩ = some (.bool false) := (by rw [hBW.cell (p := ⟨w.heap.size + 1 + 1, 2, none⟩) (by first | omega | (simp; done) | (simp; omega))]; go_simp; done)
  have hg_w1_2_2 : w1.frozen? ⟨w.heap.size + 1 + 1, 2, none⟩ = false := (by rw [hBW.frozen (p := ⟨w.heap.size + 1 + 1, 2, none⟩) (by first | omega | (simp; done) | (simp; omega))]; go_simp; done)
  have hB2 := hB0.trans (hBW.mono hB0.size)
  go_wp2_with (go_at_call 93; refine (rsign_any _ _).mono ?_; rintro e w' ⟨rfl, rfl⟩)
  refine bodyPost_ret (v := RV (signN m4) 0 false) (by simp [results, Tryd.results63, go_sem, *]) rfl ⟨rfl, ?_⟩
  repeat' (first | with_reducible exact Below.refl _ _ | with_reducible assumption | with_reducible refine Below.drew ?_ | with_reducible refine bdrewN ?_ _ | with_reducible refine Below.alloc ?_ ?_ _ | with_reducible refine Below.setCell ?_ ?_ _ | with_reducible refine Below.trans ?_ (Below.mono (by assumption) ?_) | omega | (simp; done) | (simp; omega))
set_option maxRecDepth 100000 in
set_option maxHeartbeats 2000000 in
theorem radded_B3 (n1 n2 ns : Bool) (A B : Option Addr) (ca cb a b N m bt fl : Nat) (e1 e2 Es : Int) (w : World) (hA : IsL w A (nd a) a) (hB : IsL w B (nd b) b)
    (S : Hid (∀ W, IsL W A (nd a) a → IsL W B (nd b) b → Calls Tryd.prog 69 #[NumV n1 A a ca e1, NumV n2 B b cb e2] W (NumOut ns N Es W))) (hN : decide (0 < nd N) = false) (za : ((nd a : Int) == 0) = true) (zb : ((nd b : Int) == 0) = true) (hn : (n1 == n2) = false) (m4 : Bool) (hm4 : ((m : Int) == 4) = m4) :
    Calls Tryd.prog 63 #[NumV n1 A a ca e1, NumV n2 B b cb e2, .int .i64 m] w (RefOutB (signN m4) 0 false w) := by
  have hBW := Below.refl (((w.alloc (.cells #[.bool n1, .slice A (nd a) ca, .int .i64 e1] 119)).alloc (.cells #[.bool n2, .slice B (nd b) cb, .int .i64 e2] 119)).alloc BOXR).heap.size (((w.alloc (.cells #[.bool n1, .slice A (nd a) ca, .int .i64 e1] 119)).alloc (.cells #[.bool n2, .slice B (nd b) cb, .int .i64 e2] 119)).alloc BOXR)
  have hB0 : Below w.heap.size w (((w.alloc (.cells #[.bool n1, .slice A (nd a) ca, .int .i64 e1] 119)).alloc (.cells #[.bool n2, .slice B (nd b) cb, .int .i64 e2] 119)).alloc BOXR) := (((Below.refl _ w).alloc (by simp) _).alloc (by simp) _).alloc (by simp; omega) _
  have hA1 := hA.below (Nat.le_refl _) hB0
  have hB1 := hB.below (Nat.le_refl _) hB0
  go_enter Tryd.func63, Tryd.ntmps63
  go_wp2_with fail
  refine (S.out _ hA1 hB1).mono ?_
  rintro e w1 ⟨X, c, rfl, n1_, n2_, i1, hb_⟩
  replace hBW := hBW.trans (hb_.mono hBW.size)
  have hz : w.heap.size + 3 ≤ w1.heap.size := by have := hb_.size; simp at this; omega
  have hl0 : w.heap.size < w1.heap.size := by omega
  have hl1 : w.heap.size + 1 < w1.heap.size := by omega
  have hl2 : w.heap.size + 1 + 1 < w1.heap.size := by omega
  clear hb_ S hA hB hA1 hB1
  have hk_w1_0_0 : w1.cell? ⟨w.heap.size, 0, none⟩ = some (.bool n1) := (by rw [hBW.cell (p := ⟨w.heap.size, 0, none⟩) (by first | omega | (simp; done) | (simp; omega))]; go_simp; done)
  have hk_w1_0_1 : w1.cell? ⟨w.heap.size, 1, none⟩ = some (.slice A (nd a) ca) := (by rw [hBW.cell (p := ⟨w.heap.size, 1, none⟩) (by first | omega | (simp; done) | (simp; omega))]; go_simp; done)
  have hk_w1_0_2 : w1.cell? ⟨w.heap.size, 2, none⟩ = some (.int .i64 e1) := (by rw [hBW.cell (p := ⟨w.heap.size, 2, none⟩) (by first | omega | (simp; done) | (simp; omega))]; go_simp; done)
  have hk_w1_1_0 : w1.cell? ⟨w.heap.size + 1, 0, none⟩ = some (.bool n2) := (by rw [hBW.cell (p := ⟨w.heap.size + 1, 0, none⟩) (by first | omega | (simp; done) | (simp; omega))]; go_simp; done)
  have hk_w1_1_1 : w1.cell? ⟨w.heap.size + 1, 1, none⟩ = some (.slice B (nd b) cb) := (by rw [hBW.cell (p := ⟨w.heap.size + 1, 1, none⟩) (by first | omega | (simp; done) | (simp; omega))]; go_simp; done)
  have hk_w1_1_2 : w1.cell? ⟨w.heap.size + 1, 2, none⟩ = some (.int .i64 e2) := (by rw [hBW.cell (p := ⟨w.heap.size + 1, 2, none⟩) (by first | omega | (simp; done) | (simp; omega))]; go_simp; done)
  have hk_w1_2_0 : w1.cell? ⟨w.heap.size + 1 + 1, 0, none⟩ = some (.int .u64 0) := (by rw [hBW.cell (p := ⟨w.heap.size + 1 + 1, 0, none⟩) (by first | omega | (simp; done) | (simp; omega))]; go_simp; done)
  have hg_w1_2_0 : w1.frozen? ⟨w.heap.size + 1 + 1, 0, none⟩ = false := (by rw [hBW.frozen (p := ⟨w.heap.size + 1 + 1, 0, none⟩) (by first | omega | (simp; done) | (simp; omega))]; go_simp; done)
  have hk_w1_2_1 : w1.cell? ⟨w.heap.size + 1 + 1, 1, none⟩ = some (.int .i64 0) := (by rw [hBW.cell (p := ⟨w.heap.size + 1 + 1, 1, none⟩) (by first | omega | (simp; done) | (simp; omega))]; go_simp; done)
  have hg_w1_2_1 : w1.frozen? ⟨w.heap.size + 1 + 1, 1, none⟩ = false := (by rw [hBW.frozen (p := ⟨w.heap.size + 1 + 1, 1, none⟩) (by first | omega | (simp; done) | (simp; omega))]; go_simp; done)
  have hk_w1_2_2 : w1.cell? ⟨w.heap.size + 1 + 1, 2, none⟩ = some (.bool false) := (by rw [hBW.cell (p := ⟨w.heap.size + 1 + 1, 2, none⟩) (by first | omega | (simp; done) | (simp; omega))]; go_simp; done)
  have hg_w1_2_2 : w1.frozen? ⟨w.heap.size + 1 + 1, 2, none⟩ = false := (by rw [hBW.frozen (p := ⟨w.heap.size + 1 + 1, 2, none⟩) (by first | omega | (simp; done) | (simp; omega))]; go_simp; done)
  have hB2 := hB0.trans (hBW.mono hB0.size)
  go_wp2_with (go_at_call 93; refine (rsign_any _ _).mono ?_; rintro e w' ⟨rfl, rfl⟩)
  refine bodyPost_ret (v := RV (signN m4) 0 false) (by simp [results, Tryd.results63, go_sem, *]) rfl ⟨rfl, ?_⟩
  repeat' (first | with_reducible exact Below.refl _ _ | with_reducible assumption | with_reducible refine Below.drew ?_ | with_reducible refine bdrewN ?_ _ | with_reducible refine Below.alloc ?_ ?_ _ | with_reducible refine Below.setCell ?_ ?_ _ | with_reducible refine Below.trans ?_ (Below.mono (by assumption) ?_) | omega | (simp; done) | (simp; omega))
set_option maxRecDepth 100000 in
set_option maxHeartbeats 1000000 in
theorem radd_bad (m a b : Nat) (Ka : Hid (∀ W, Calls Tryd.prog 43 #[.int .u64 a] W fun e w' => e = .returned (.int .i64 3) ∧ W = w')) (Kb : Hid (∀ W, Calls Tryd.prog 43 #[.int .u64 b] W fun e w' => e = .returned (.int .i64 3) ∧ W = w')) (hab : ((a : Int) != b) = true) (w : World) :
    Calls Tryd.prog 46 #[.int .u64 a, .int .u64 b, .int .i64 m] w (RefOutB 9221120237041090560 16 false w) := by
  go_enter Tryd.func46, Tryd.ntmps46
  go_wp2_with (first | (go_at_call_of 43 (Value.int IntKind.u64 a); refine (Ka.out _).mono ?_; rintro e w' ⟨rfl, rfl⟩) | (go_at_call_of 43 (Value.int IntKind.u64 b); refine (Kb.out _).mono ?_; rintro e w' ⟨rfl, rfl⟩))
  all_goals refine bodyPost_ret (v := RV 9221120237041090560 16 false) (by simp [results, Tryd.results46, go_sem, *]) rfl ⟨rfl, ?_⟩
  repeat' (first | with_reducible exact Below.refl _ _ | with_reducible assumption | with_reducible refine Below.drew ?_ | with_reducible refine bdrewN ?_ _ | with_reducible refine Below.alloc ?_ ?_ _ | with_reducible refine Below.setCell ?_ ?_ _ | with_reducible refine Below.trans ?_ (Below.mono (by assumption) ?_) | omega | (simp; done) | (simp; omega))
set_option maxRecDepth 100000 in
set_option maxHeartbeats 1000000 in
theorem radd_a1 (m a b : Nat) (Ka : Hid (∀ W, Calls Tryd.prog 43 #[.int .u64 a] W fun e w' => e = .returned (.int .i64 3) ∧ W = w')) (Kb : Hid (∀ W, Calls Tryd.prog 43 #[.int .u64 b] W fun e w' => e = .returned (.int .i64 3) ∧ W = w')) (hab : ((a : Int) != b) = false) (w : World) :
    Calls Tryd.prog 46 #[.int .u64 a, .int .u64 b, .int .i64 m] w (RefOutB a 0 false w) := by
  go_enter Tryd.func46, Tryd.ntmps46
  go_wp2_with (first | (go_at_call_of 43 (Value.int IntKind.u64 a); refine (Ka.out _).mono ?_; rintro e w' ⟨rfl, rfl⟩) | (go_at_call_of 43 (Value.int IntKind.u64 b); refine (Kb.out _).mono ?_; rintro e w' ⟨rfl, rfl⟩))
  all_goals refine bodyPost_ret (v := RV a 0 false) (by simp [results, Tryd.results46, go_sem, *]) rfl ⟨rfl, ?_⟩
  repeat' (first | with_reducible exact Below.refl _ _ | with_reducible assumption | with_reducible refine Below.drew ?_ | with_reducible refine bdrewN ?_ _ | with_reducible refine Below.alloc ?_ ?_ _ | with_reducible refine Below.setCell ?_ ?_ _ | with_reducible refine Below.trans ?_ (Below.mono (by assumption) ?_) | omega | (simp; done) | (simp; omega))
set_option maxRecDepth 100000 in
set_option maxHeartbeats 1000000 in
theorem radd_a2 (m a b kb : Nat) (Ka : Hid (∀ W, Calls Tryd.prog 43 #[.int .u64 a] W fun e w' => e = .returned (.int .i64 3) ∧ W = w')) (Kb : Hid (∀ W, Calls Tryd.prog 43 #[.int .u64 b] W fun e w' => e = .returned (.int .i64 (kb : Int)) ∧ W = w')) (hkb3 : ((kb : Int) == 3) = false) (w : World) :
    Calls Tryd.prog 46 #[.int .u64 a, .int .u64 b, .int .i64 m] w (RefOutB a 0 false w) := by
  go_enter Tryd.func46, Tryd.ntmps46
  go_wp2_with (first | (go_at_call_of 43 (Value.int IntKind.u64 a); refine (Ka.out _).mono ?_; rintro e w' ⟨rfl, rfl⟩) | (go_at_call_of 43 (Value.int IntKind.u64 b); refine (Kb.out _).mono ?_; rintro e w' ⟨rfl, rfl⟩))
  all_goals refine bodyPost_ret (v := RV a 0 false) (by simp [results, Tryd.results46, go_sem, *]) rfl ⟨rfl, ?_⟩
  repeat' (first | with_reducible exact Below.refl _ _ | with_reducible assumption | with_reducible refine Below.drew ?_ | with_reducible refine bdrewN ?_ _ | with_reducible refine Below.alloc ?_ ?_ _ | with_reducible refine Below.setCell ?_ ?_ _ | with_reducible refine Below.trans ?_ (Below.mono (by assumption) ?_) | omega | (simp; done) | (simp; omega))
set_option maxRecDepth 100000 in
set_option maxHeartbeats 1000000 in
theorem radd_b1 (m a b ka : Nat) (Ka : Hid (∀ W, Calls Tryd.prog 43 #[.int .u64 a] W fun e w' => e = .returned (.int .i64 (ka : Int)) ∧ W = w')) (Kb : Hid (∀ W, Calls Tryd.prog 43 #[.int .u64 b] W fun e w' => e = .returned (.int .i64 3) ∧ W = w')) (hka3 : ((ka : Int) == 3) = false) (w : World) :
    Calls Tryd.prog 46 #[.int .u64 a, .int .u64 b, .int .i64 m] w (RefOutB b 0 false w) := by
  go_enter Tryd.func46, Tryd.ntmps46
  go_wp2_with (first | (go_at_call_of 43 (Value.int IntKind.u64 a); refine (Ka.out _).mono ?_; rintro e w' ⟨rfl, rfl⟩) | (go_at_call_of 43 (Value.int IntKind.u64 b); refine (Kb.out _).mono ?_; rintro e w' ⟨rfl, rfl⟩))
  all_goals refine bodyPost_ret (v := RV b 0 false) (by simp [results, Tryd.results46, go_sem, *]) rfl ⟨rfl, ?_⟩
  repeat' (first | with_reducible exact Below.refl _ _ | with_reducible assumption | with_reducible refine Below.drew ?_ | with_reducible refine bdrewN ?_ _ | with_reducible refine Below.alloc ?_ ?_ _ | with_reducible refine Below.setCell ?_ ?_ _ | with_reducible refine Below.trans ?_ (Below.mono (by assumption) ?_) | omega | (simp; done) | (simp; omega))
set_option maxRecDepth 100000 in
set_option maxHeartbeats 1000000 in
theorem radd_go (m a b ka kb : Nat) (Ka : Hid (∀ W, Calls Tryd.prog 43 #[.int .u64 a] W fun e w' => e = .returned (.int .i64 (ka : Int)) ∧ W = w')) (Kb : Hid (∀ W, Calls Tryd.prog 43 #[.int .u64 b] W fun e w' => e = .returned (.int .i64 (kb : Int)) ∧ W = w')) (na nb : Bool) (Na Nb bt fl : Nat) (ea eb : Int) (Ea : Hid (∀ W, Calls Tryd.prog 64 #[.int .u64 a] W (NumOut na Na ea W))) (Eb : Hid (∀ W, Calls Tryd.prog 64 #[.int .u64 b] W (NumOut nb Nb eb W))) (P : Hid (∀ W A B ca cb, IsL W A (nd Na) Na → IsL W B (nd Nb) Nb → Calls Tryd.prog 63 #[NumV na A Na ca ea, NumV nb B Nb cb eb, .int .i64 m] W (RefOutB bt fl false W))) (hka3 : ((ka : Int) == 3) = false) (hkb3 : ((kb : Int) == 3) = false) (w : World) :
    Calls Tryd.prog 46 #[.int .u64 a, .int .u64 b, .int .i64 m] w (RefOutB bt fl false w) := by
  go_enter Tryd.func46, Tryd.ntmps46
  go_wp2_with (first | (go_at_call_of 43 (Value.int IntKind.u64 a); refine (Ka.out _).mono ?_; rintro e w' ⟨rfl, rfl⟩) | (go_at_call_of 43 (Value.int IntKind.u64 b); refine (Kb.out _).mono ?_; rintro e w' ⟨rfl, rfl⟩))
  refine (Ea.out _).mono ?_
  rintro e w1 ⟨A1, c1, rfl, n1_, m1_, i1, hb1⟩
  go_wp2_with fail
  refine (Eb.out _).mono ?_
  rintro e w2 ⟨A2, c2, rfl, n2_, m2_, i2, hb2⟩
  replace i1 := i1.below (Nat.le_refl _) hb2
  go_wp2_with fail
  refine (P.out _ _ _ _ _ i1 i2).mono ?_
  rintro e w3 ⟨rfl, hb3⟩
  clear i1 i2
  have hz1 := hb1.size
  simp at hz1
  have hz2 := hb2.size
  have hBW := (hb1.trans (hb2.mono hb1.size)).trans (hb3.mono (Nat.le_trans hb1.size hb2.size))
  have hk_w3_0_0 : w3.cell? ⟨w.heap.size, 0, none⟩ = some (.int .u64 0) := (by rw [hBW.cell (p := ⟨w.heap.size, 0, none⟩) (by first | omega | (simp; done) | (simp; omega))]; go_simp; done)
  have hg_w3_0_0 : w3.frozen? ⟨w.heap.size, 0, none⟩ = false := (by rw [hBW.frozen (p := ⟨w.heap.size, 0, none⟩) (by first | omega | (simp; done) | (simp; omega))]; go_simp; done)
  have hk_w3_0_1 : w3.cell? ⟨w.heap.size, 1, none⟩ = some (.int .i64 0) := (by rw [hBW.cell (p := ⟨w.heap.size, 1, none⟩) (by first | omega | (simp; done) | (simp; omega))]; go_simp; done)
  have hg_w3_0_1 : w3.frozen? ⟨w.heap.size, 1, none⟩ = false := (by rw [hBW.frozen (p := ⟨w.heap.size, 1, none⟩) (by first | omega | (simp; done) | (simp; omega))]; go_simp; done)
  have hk_w3_0_2 : w3.cell? ⟨w.heap.size, 2, none⟩ = some (.bool false) := (by rw [hBW.cell (p := ⟨w.heap.size, 2, none⟩) (by first | omega | (simp; done) | (simp; omega))]; go_simp; done)
  have hg_w3_0_2 : w3.frozen? ⟨w.heap.size, 2, none⟩ = false := (by rw [hBW.frozen (p := ⟨w.heap.size, 2, none⟩) (by first | omega | (simp; done) | (simp; omega))]; go_simp; done)
  go_wp2_with fail
  all_goals refine bodyPost_ret (v := RV bt fl false) (by simp [results, Tryd.results46, go_sem, *]) rfl ⟨rfl, ?_⟩
  repeat' (first | with_reducible exact Below.refl _ _ | with_reducible assumption | with_reducible refine Below.drew ?_ | with_reducible refine bdrewN ?_ _ | with_reducible refine Below.alloc ?_ ?_ _ | with_reducible refine Below.setCell ?_ ?_ _ | with_reducible refine Below.trans ?_ (Below.mono (by assumption) ?_) | omega | (simp; done) | (simp; omega))
end Go.Proofs.YtldmbneckcjonaaDoor
namespace Go.Proofs.YtldmbneckcjonaaDoor
open Go.RowKit
theorem fin_S {m n : Nat} {ng : Bool} {e : Int} (hn : n ≠ 0) (hm : m < 5) (hl : bl n ≤ 40000) (he1 : -40000 ≤ e) (he2 : e ≤ 40000) (W : World) (A : Option Addr) (c : Nat) (hA : IsL W A (nd n) n) :
    Calls Tryd.prog 65 #[NumV ng A n c e, .int .i64 m] W (RefOutB (roundS m ng n false e).1 (roundS m ng n false e).2 false W) := by
  rw [← roundR_eq]; exact rfinite_any ng A c n m e W hA hn hm hl he1 he2
theorem nd_beq {a : Nat} : ((nd a : Int) == 0) = decide (a = 0) := by
  by_cases h : a = 0
  · rw [h, nd_zero]; rfl
  · rw [decide_eq_false h, beq_eq_false_iff_ne]; have := nd_pos.2 h; omega
theorem radded_any (n1 n2 : Bool) (A B : Option Addr) (ca cb a b m : Nat) (e1 e2 : Int) (w : World) (hA : IsL w A (nd a) a) (hB : IsL w B (nd b) b) (hm : m < 5) (la : bl a ≤ 200) (lb : bl b ≤ 200) (h1 : -4000 ≤ e1) (h2 : e1 ≤ 4000) (h3 : -4000 ≤ e2) (h4 : e2 ≤ 4000) :
    Calls Tryd.prog 63 #[NumV n1 A a ca e1, NumV n2 B b cb e2, .int .i64 m] w (RefOutB (addedV m n1 n2 (val a e1) (val b e2)).1 (addedV m n1 n2 (val a e1) (val b e2)).2 false w) := by
  have S := Lib.hid (fun (W : World) hA hB => rsum_any n1 n2 A B ca cb a b e1 e2 W hA hB la lb (by omega) (by omega) (by omega) (by omega))
  obtain ⟨v1, v2⟩ := sumR_val (n1 := n1) (n2 := n2) (a := a) (b := b) (e1 := e1) (e2 := e2) (by omega) (by omega)
  obtain ⟨c1, c2, c3⟩ := sumR_bound (n1 := n1) (n2 := n2) (a := a) (b := b) (e1 := e1) (e2 := e2) la lb (by omega) (by omega) (by omega) (by omega)
  have va := val_eq_zero (n := a) (e := e1)
  have vb := val_eq_zero (n := b) (e := e2)
  have za := nd_beq (a := a)
  have zb := nd_beq (a := b)
  unfold addedV
  generalize sumR n1 n2 a b e1 e2 = r at *
  obtain ⟨ns, N, Es⟩ := r
  simp only at S v1 v2 c1 c2 c3
  by_cases hN : N = 0
  · have hV : ¬ (sumV n1 n2 (val a e1) (val b e2)).2 ≠ 0 := fun h => v1.2 h hN
    have hd : decide (0 < nd N) = false := by rw [hN, nd_zero]; rfl
    rw [if_neg hV]
    by_cases h5 : val a e1 = 0 ∧ val b e2 = 0 ∧ n1 = n2
    · rw [if_pos h5]
      exact radded_B0 n1 n2 ns A B ca cb a b N m 0 0 e1 e2 Es w hA hB S hd (by rw [za, decide_eq_true (va.1 h5.1)]) (by rw [zb, decide_eq_true (vb.1 h5.2.1)]) (by rw [h5.2.2]; exact beq_self_eq_true n2)
    · rw [if_neg h5]
      have hm4 : ((m : Int) == 4) = decide (m = 4) := by
        by_cases h : m = 4
        · rw [decide_eq_true h, h]; rfl
        · rw [decide_eq_false h, beq_eq_false_iff_ne]; omega
      by_cases h6 : a = 0
      · by_cases h7 : b = 0
        · have hne : (n1 == n2) = false := by rw [beq_eq_false_iff_ne]; exact fun h => h5 ⟨va.2 h6, vb.2 h7, h⟩
          exact radded_B3 n1 n2 ns A B ca cb a b N m 0 0 e1 e2 Es w hA hB S hd (by rw [za, decide_eq_true h6]) (by rw [zb, decide_eq_true h7]) hne _ hm4
        · exact radded_B2 n1 n2 ns A B ca cb a b N m 0 0 e1 e2 Es w hA hB S hd (by rw [za, decide_eq_true h6]) (by rw [zb, decide_eq_false h7]) _ hm4
      · exact radded_B1 n1 n2 ns A B ca cb a b N m 0 0 e1 e2 Es w hA hB S hd (by rw [za, decide_eq_false h6]) _ hm4
  · rw [if_pos (v1.1 hN), ← v2 hN]
    exact radded_A n1 n2 ns A B ca cb a b N m _ _ e1 e2 Es w hA hB S (decide_eq_true (nd_pos.2 hN)) (fun W X c hX => fin_S hN hm c1 c2 c3 W X c hX)
theorem radd_any (m a b : Nat) (hm : m < 5) (ua : U64 a) (ub : U64 b) (ka : kindN a < 4) (kb : kindN b < 4) (w : World) : Calls Tryd.prog 46 #[.int .u64 a, .int .u64 b, .int .i64 m] w (RefOutB (addS m a b).1 (addS m a b).2 false w) := by
  have Ka := Lib.hid (fun W => kind_any a ua W)
  have Kb := Lib.hid (fun W => kind_any b ub W)
  unfold addS
  by_cases h1 : kindN a = 3
  · rw [h1] at Ka ⊢
    by_cases h2 : kindN b = 3
    · rw [h2] at Kb ⊢
      by_cases hab : a = b
      · rw [if_neg (by simp [hab]), if_pos rfl]
        exact radd_a1 m a b Ka Kb (by rw [hab]; simp) w
      · rw [if_pos ⟨rfl, rfl, hab⟩]
        exact radd_bad m a b Ka Kb (by rw [bne_iff_ne]; omega) w
    · rw [if_neg (by omega), if_pos rfl]
      exact radd_a2 m a b _ Ka Kb (nef3 (n := 3) h2) w
  · rw [if_neg (by omega), if_neg h1]
    by_cases h2 : kindN b = 3
    · rw [h2] at Kb
      rw [if_pos h2]
      exact radd_b1 m a b _ Ka Kb (nef3 (n := 3) h1) w
    · rw [if_neg h2]
      have c1 := exE_bounds a
      have c2 := exE_bounds b
      have d1 := exN_bl a
      have d2 := exN_bl b
      exact radd_go m a b _ _ Ka Kb _ _ _ _ _ _ _ _ (fun W => rexact_any a ua W) (fun W => rexact_any b ub W) (fun W A B ca cb hA hB => radded_any _ _ A B ca cb _ _ m _ _ W hA hB hm (by omega) (by omega) (by omega) (by omega) (by omega) (by omega)) (nef3 (n := 3) h1) (nef3 (n := 3) h2) w
theorem agree_1 {m a b c : Nat} (ua : U64 a) (ub : U64 b) (uc : U64 c) : Agree 1 m a b c :=
  agree_op (by decide) (by decide) (fun args w => Tryd.call130 args w) ua ub uc fun hm hN => by
    obtain ⟨ka, kb⟩ := nanS2 hN
    exact ⟨_, _, addS_fl m a b, fun W => add_any 1 m a b c hm ua ub ka kb W, fun hR W => rDo_1 m a b c _ _ (by omega) ua ub uc hR (fun W => radd_any m a b hm ua ub ka kb W) W⟩
theorem agree_2 {m a b c : Nat} (ua : U64 a) (ub : U64 b) (uc : U64 c) : Agree 2 m a b c :=
  agree_op (by decide) (by decide) (fun args w => Tryd.call131 args w) ua ub uc fun hm hN => by
    obtain ⟨ka, kb⟩ := nanS2 hN
    exact ⟨_, _, addS_fl m a (turnN b), fun W => sub_any 2 m a b c hm ua ub ka kb W, fun hR W => rDo_2 m a b c _ _ _ (turn_xor ub) (by omega) ua ub uc hR (fun W => radd_any m a (turnN b) hm ua (turn_u ub) ka (by rw [kind_turn ub]; exact kb) W) W⟩
set_option maxRecDepth 100000 in
set_option maxHeartbeats 400000 in
theorem Sums_any (A : Option Addr) (len cap : Nat) (hl : len ≤ maxLen) (w : World) (hT : TableAt w) (hst : StepsIn w A len) :
    Calls Tryd.prog 3 #[.slice A len cap] w fun e w' => e = .returned (.bool true) ∧ Below w.heap.size w w' := by
  have C1 := Lib.hid (fun W hT hst => of_any A len cap 1 2 hl W hT hst fun o m a b c ho _ h1 h2 ua ub uc => by
    have : o = 1 ∨ o = 2 := by omega
    rcases this with rfl | rfl
    · exact agree_1 ua ub uc
    · exact agree_2 ua ub uc)
  replace hst := Lib.hid hst
  replace hT := Lib.hid hT
  clear hl
  go_enter Tryd.func3, Tryd.ntmps3
  go_wp2_with fail
  refine (C1.out _ hT.out hst.out).mono ?_
  rintro e w1 ⟨rfl, hb1⟩
  go_wp2_with fail
  go_ret
  exact ⟨rfl, hb1⟩
end Go.Proofs.YtldmbneckcjonaaDoor
namespace Go.Proofs.YtldmbneckcjonaaDoor
open Go.RowKit Go.WideShapes Go.ChangeShapes Go.ChangeAt
set_option maxRecDepth 100000 in
theorem sums_lifted (os : Os) (started : os.Started) (H : Type) (enc : TypeId × Value → H) :
    ReturnsInHanded {} Tryd.checked os 3 .any (fun w args => (Rows.sumsSpec.pre enc Tryd.prog Tryd.f3 [] false w args ∧ laidMetH Tryd.prog laidL w) ∧ sizedMet enc Tryd.prog Tryd.f3 (OpenSpec.ofChange Rows.sumsSpec) false w args)
      (Rows.sumsSpec.post enc Tryd.prog Tryd.f3 false true false false) := by
  refine returnsInHanded_of_change_and (C := Tryd.checked) (X := fun w _ => laidMetH Tryd.prog laidL w) (fun _ _ _ hh h => h.of_heap hh) own started (by kernel_rfl) Tryd.func3
    (ChangeSpec.witness_shaped (enc := enc) (C := Tryd.checked) (os := os) (X := fun w _ => laidMetH Tryd.prog laidL w) false (World.doorLaid Tryd.prog 600 os) #[.slice none 0 0] 8 rfl (World.shaped_of_RefB (by kernel_rfl) (by kernel_rfl)) (by kernel_rfl) (by kernel_rfl) (by kernel_rfl) (door_met os _)) ?_
  intro W base args ds gs before hval hW _ _ hL _
  obtain ⟨A, len, cap, rfl, hl, hst, fin⟩ := law_shut (nm := "sums") (f := Tryd.f3) rfl rfl (fun j t v h1 h2 => .inr ⟨base, hval j t v h1 h2⟩) hW
  refine (Sums_any A len cap hl W (of_laid hL) (stepsIn_of hst)).mono fun e W' ⟨he, hw⟩ => ?_
  subst he
  exact ⟨_, rfl, fin W' hw⟩
theorem sums_holds : Rows.SumsSaid :=
  OpenClaim.holds_of_wide_leaving 3 Tryd.f3 rfl rfl rfl rfl rfl rfl rfl ⟨rfl, rfl, rfl, rfl, rfl⟩ rfl rfl rfl rfl rfl (by kernel_rfl) Tryd.func3 (by kernel_rfl)
    (of_decide_eq_true (by kernel_rfl)) (by unfold Func.isWrapper; first | (rw [if_pos (by decide +kernel)]; kernel_rfl) | (rw [if_neg (by decide +kernel)]; exact ⟨rfl, rfl⟩))
    (fun os started H enc _ => leaving_of_handed (sums_lifted os started H enc))
theorem sums_card_holds : Rows.SumsCardSaid :=
  holds_tied_goes .later [.funcs] true (true, "6c2333d7cfd43ffcebf9976d2fa59ef1805734a55d7131f269abed5f0ab20e77") false sums_holds (by kernel_rfl) sums_row_tie rfl ⟨rfl, rfl⟩ (by kernel_rfl) rfl
    (fun f fn hf hfn => by
      obtain rfl : f = 3 := Option.some.inj ((show Tryd.prog.funcNamed "softfloat/softfloatlaw.Sums" = some 3 by kernel_rfl).symm.trans hf) |>.symm
      obtain rfl : fn = Tryd.f3 := (Option.some.inj (Tryd.func3.symm.trans hfn)).symm
      exact ⟨by kernel_rfl, fun j t ht => by
        have hp : Tryd.f3.params = #[22] := rfl
        rw [hp] at ht
        have hm : t ∈ [22] := by simpa using Array.mem_of_getElem? ht
        have hall : ([22].all fun u => !Tryd.prog.wantsStandIn u) = true := by kernel_rfl
        exact (show Tryd.prog.wantsStandIn t = false by simpa using List.all_eq_true.1 hall t hm)⟩)
    (by kernel_rfl)
#print axioms sums_card_holds
end Go.Proofs.YtldmbneckcjonaaDoor
