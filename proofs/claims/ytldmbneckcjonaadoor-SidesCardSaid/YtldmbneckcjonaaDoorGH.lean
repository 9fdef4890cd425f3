/- Several texts in one: Of softfloatref: sum. · Plain: the size of what cut gives; what Round answers, as a function. · Of softfloatref: Round. · Of softfloatref: Round below the least normal, and else. · Of softfloatref: Round and finite, whole. · Of softfloatref: sum whole, finite, added. · Plain: the reference's rounding and sum are the plain ones. -/
import Derived.Test.YtldmbneckcjonaaDoorGF
import Derived.Test.YtldmbneckcjonaaDoorGC
set_option linter.unusedVariables false
set_option linter.unusedSimpArgs false
namespace Go.Proofs.YtldmbneckcjonaaDoor
open Go.RowKit
/-- What sum's boxes hold when both parts have one exponent. -/
def SumMid (w : World) (n1 n2 : Bool) (a b : Nat) (E : Int) (wx : World) : Prop := ∃ A1 c1 B1 c2,
  (wx.cell? ⟨w.heap.size, 0, none⟩ = some (.bool n1) ∧ wx.cell? ⟨w.heap.size, 1, none⟩ = some (.slice A1 (nd a) c1) ∧ wx.cell? ⟨w.heap.size, 2, none⟩ = some (.int .i64 E)) ∧
  (wx.cell? ⟨w.heap.size + 1, 0, none⟩ = some (.bool n2) ∧ wx.cell? ⟨w.heap.size + 1, 1, none⟩ = some (.slice B1 (nd b) c2) ∧ wx.cell? ⟨w.heap.size + 1, 2, none⟩ = some (.int .i64 E)) ∧
  (wx.cell? ⟨w.heap.size + 1 + 1, 0, none⟩ = some (.bool false) ∧ wx.cell? ⟨w.heap.size + 1 + 1, 1, none⟩ = some (.slice none 0 0) ∧ wx.cell? ⟨w.heap.size + 1 + 1, 2, none⟩ = some (.int .i64 0)) ∧
  (wx.frozen? ⟨w.heap.size + 1 + 1, 0, none⟩ = false ∧ wx.frozen? ⟨w.heap.size + 1 + 1, 1, none⟩ = false ∧ wx.frozen? ⟨w.heap.size + 1 + 1, 2, none⟩ = false) ∧
  IsL wx A1 (nd a) a ∧ IsL wx B1 (nd b) b ∧ Below w.heap.size w wx ∧ w.heap.size + 3 ≤ wx.heap.size
def sumN (n1 n2 : Bool) (a b : Nat) (E : Int) : Bool × Nat × Int := if n1 = n2 then (n1, a + b, E) else if a = b then (false, 0, 0) else if b < a then (n1, a - b, E) else (n2, b - a, E)
theorem struct_cell {w : World} {b o g : Nat} {v v0 v1 v2 : Value} (h : w.cell? ⟨b, o, none⟩ = some v) (hb : b ≠ g) : (((w.setCell ⟨g, 0, none⟩ v0).setCell ⟨g, 1, none⟩ v1).setCell ⟨g, 2, none⟩ v2).cell? ⟨b, o, none⟩ = some v := by
  rw [World.cell?_setCell_other _ _ _ _ (fun e => hb (by injection e with e _; exact e.symm)), World.cell?_setCell_other _ _ _ _ (fun e => hb (by injection e with e _; exact e.symm)), World.cell?_setCell_other _ _ _ _ (fun e => hb (by injection e with e _; exact e.symm))]
  exact h
theorem numV_zero : Value.agg #[.bool false, .slice none 0 0, .int .i64 0] = NumV false none 0 0 0 := by
  show _ = Value.agg #[.bool false, .slice none (nd 0) 0, .int .i64 0]; rw [nd_zero]
set_option maxRecDepth 100000 in
set_option maxHeartbeats 2000000 in
theorem rsum_e (n1 n2 : Bool) (A B : Option Addr) (ca cb a b a1 b1 d : Nat) (e1 e2 E : Int) (w : World) (hA : IsL w A (nd a) a) (hB : IsL w B (nd b) b) (sa : Mod a) (sb : Mod b) (ma : Mod a1) (mb : Mod b1) (mab : Mod (a1 + b1))
    (hcase : (e2 < e1 ∧ wrap64 (e1 - e2) = d ∧ a1 = a * 2 ^ d ∧ b1 = b ∧ E = e2) ∨ (¬ e2 < e1 ∧ wrap64 (e2 - e1) = d ∧ b1 = b * 2 ^ d ∧ a1 = a ∧ E = e1)) :
    Calls Tryd.prog 69 #[NumV n1 A a ca e1, NumV n2 B b cb e2] w (NumOut (sumN n1 n2 a1 b1 E).1 (sumN n1 n2 a1 b1 E).2.1 (sumN n1 n2 a1 b1 E).2.2 w) := by
  have C1 := Lib.hid (fun (W : World) (h : a1 = a * 2 ^ d) (hW : IsL W A (nd a) a) => rup_any A ca a d W hW (by rw [← h]; exact ma))
  have C2 := Lib.hid (fun (W : World) (h : b1 = b * 2 ^ d) (hW : IsL W B (nd b) b) => rup_any B cb b d W hW (by rw [← h]; exact mb))
  have hBW := Below.refl (((w.alloc (.cells #[.bool n1, .slice A (nd a) ca, .int .i64 e1] 119)).alloc (.cells #[.bool n2, .slice B (nd b) cb, .int .i64 e2] 119)).alloc (.cells #[.bool false, .slice none 0 0, .int .i64 0] 119)).heap.size (((w.alloc (.cells #[.bool n1, .slice A (nd a) ca, .int .i64 e1] 119)).alloc (.cells #[.bool n2, .slice B (nd b) cb, .int .i64 e2] 119)).alloc (.cells #[.bool false, .slice none 0 0, .int .i64 0] 119))
  have hB0 : Below w.heap.size w (((w.alloc (.cells #[.bool n1, .slice A (nd a) ca, .int .i64 e1] 119)).alloc (.cells #[.bool n2, .slice B (nd b) cb, .int .i64 e2] 119)).alloc (.cells #[.bool false, .slice none 0 0, .int .i64 0] 119)) := (((Below.refl _ w).alloc (by simp) _).alloc (by simp) _).alloc (by simp; omega) _
  have hA1 := hA.below (Nat.le_refl _) hB0
  have hB1 := hB.below (Nat.le_refl _) hB0
  go_enter Tryd.func69, Tryd.ntmps69
  go_upto_if 10 with (fail)
  go_cut [] (SumMid w n1 n2 a1 b1 E)
  case first =>
    rcases hcase with h | h
    · obtain ⟨hlt, hwd, ha1, rfl, rfl⟩ := h
      replace C1 := C1.out _ ha1 hA1
      replace ha1 := Lib.hid ha1
      go_wp2_with fail
      refine C1.mono ?_
      rintro e w1 ⟨X1, c1, rfl, m1_, m2_, i1, hb_⟩
      have hs1 := hBW.size
      replace hBW := hBW.trans (hb_.mono hBW.size)
      have hF : Fr (w.heap.size + 3) X1 := m2_.2.mono (by simp)
      have hz1 : w.heap.size + 3 ≤ w1.heap.size := by have := hb_.size; simp at this; omega
      clear hb_ hs1
      have hk_w1_0_0 : w1.cell? ⟨w.heap.size, 0, none⟩ = some (.bool n1) := (by rw [hBW.cell (p := ⟨w.heap.size, 0, none⟩) (by first | omega | (simp; done) | (simp; omega))]; go_simp; done)
      have hg_w1_0_0 : w1.frozen? ⟨w.heap.size, 0, none⟩ = false := (by rw [hBW.frozen (p := ⟨w.heap.size, 0, none⟩) (by first | omega | (simp; done) | (simp; omega))]; go_simp; done)
      have hk_w1_0_1 : w1.cell? ⟨w.heap.size, 1, none⟩ = some (.slice A (nd a) ca) := (by rw [hBW.cell (p := ⟨w.heap.size, 1, none⟩) (by first | omega | (simp; done) | (simp; omega))]; go_simp; done)
      have hg_w1_0_1 : w1.frozen? ⟨w.heap.size, 1, none⟩ = false := (by rw [hBW.frozen (p := ⟨w.heap.size, 1, none⟩) (by first | omega | (simp; done) | (simp; omega))]; go_simp; done)
      have hk_w1_0_2 : w1.cell? ⟨w.heap.size, 2, none⟩ = some (.int .i64 e1) := (by rw [hBW.cell (p := ⟨w.heap.size, 2, none⟩) (by first | omega | (simp; done) | (simp; omega))]; go_simp; done)
      have hg_w1_0_2 : w1.frozen? ⟨w.heap.size, 2, none⟩ = false := (by rw [hBW.frozen (p := ⟨w.heap.size, 2, none⟩) (by first | omega | (simp; done) | (simp; omega))]; go_simp; done)
      have hk_w1_1_0 : w1.cell? ⟨w.heap.size + 1, 0, none⟩ = some (.bool n2) := (by rw [hBW.cell (p := ⟨w.heap.size + 1, 0, none⟩) (by first | omega | (simp; done) | (simp; omega))]; go_simp; done)
      have hg_w1_1_0 : w1.frozen? ⟨w.heap.size + 1, 0, none⟩ = false := (by rw [hBW.frozen (p := ⟨w.heap.size + 1, 0, none⟩) (by first | omega | (simp; done) | (simp; omega))]; go_simp; done)
      have hk_w1_1_1 : w1.cell? ⟨w.heap.size + 1, 1, none⟩ = some (.slice B (nd b1) cb) := (by rw [hBW.cell (p := ⟨w.heap.size + 1, 1, none⟩) (by first | omega | (simp; done) | (simp; omega))]; go_simp; done)
      have hg_w1_1_1 : w1.frozen? ⟨w.heap.size + 1, 1, none⟩ = false := (by rw [hBW.frozen (p := ⟨w.heap.size + 1, 1, none⟩) (by first | omega | (simp; done) | (simp; omega))]; go_simp; done)
      have hk_w1_1_2 : w1.cell? ⟨w.heap.size + 1, 2, none⟩ = some (.int .i64 E) := (by rw [hBW.cell (p := ⟨w.heap.size + 1, 2, none⟩) (by first | omega | (simp; done) | (simp; omega))]; go_simp; done)
      have hg_w1_1_2 : w1.frozen? ⟨w.heap.size + 1, 2, none⟩ = false := (by rw [hBW.frozen (p := ⟨w.heap.size + 1, 2, none⟩) (by first | omega | (simp; done) | (simp; omega))]; go_simp; done)
      have hk_w1_2_0 : w1.cell? ⟨w.heap.size + 1 + 1, 0, none⟩ = some (.bool false) := (by rw [hBW.cell (p := ⟨w.heap.size + 1 + 1, 0, none⟩) (by first | omega | (simp; done) | (simp; omega))]; go_simp; done)
      have hg_w1_2_0 : w1.frozen? ⟨w.heap.size + 1 + 1, 0, none⟩ = false := (by rw [hBW.frozen (p := ⟨w.heap.size + 1 + 1, 0, none⟩) (by first | omega | (simp; done) | (simp; omega))]; go_simp; done)
      have hk_w1_2_1 : w1.cell? ⟨w.heap.size + 1 + 1, 1, none⟩ = some (.slice none 0 0) := (by rw [hBW.cell (p := ⟨w.heap.size + 1 + 1, 1, none⟩) (by first | omega | (simp; done) | (simp; omega))]; go_simp; done)
      have hg_w1_2_1 : w1.frozen? ⟨w.heap.size + 1 + 1, 1, none⟩ = false := (by rw [hBW.frozen (p := ⟨w.heap.size + 1 + 1, 1, none⟩) (by first | omega | (simp; done) | (simp; omega))]; go_simp; done)
      have hk_w1_2_2 : w1.cell? ⟨w.heap.size + 1 + 1, 2, none⟩ = some (.int .i64 0) := (by rw [hBW.cell (p := ⟨w.heap.size + 1 + 1, 2, none⟩) (by first | omega | (simp; done) | (simp; omega))]; go_simp; done)
      have hg_w1_2_2 : w1.frozen? ⟨w.heap.size + 1 + 1, 2, none⟩ = false := (by rw [hBW.frozen (p := ⟨w.heap.size + 1 + 1, 2, none⟩) (by first | omega | (simp; done) | (simp; omega))]; go_simp; done)
      go_wp2_with fail
      go_meet
      rw [ha1.out] at *
      have hBn : Below w.heap.size w ((w1.setCell ⟨w.heap.size, 1, none⟩ (.slice X1 (nd (a * 2 ^ d)) c1)).setCell ⟨w.heap.size, 2, none⟩ (.int .i64 E)) := ((hB0.trans (hBW.mono hB0.size)).setCell (p := ⟨_, _, _⟩) (by simp) _).setCell (p := ⟨_, _, _⟩) (by simp) _
      refine ⟨X1, c1, B, cb, ?_, ?_, ?_, ?_, ?_, ?_, ?_, ?_⟩
      · refine ⟨?_, ?_, ?_⟩ <;> (go_simp; done)
      · refine ⟨?_, ?_, ?_⟩ <;> (go_simp; done)
      · refine ⟨?_, ?_, ?_⟩ <;> (go_simp; done)
      · refine ⟨?_, ?_, ?_⟩ <;> (go_simp; done)
      · exact (i1.setCell hF (p := ⟨_, _, _⟩) (by simp) _).setCell hF (p := ⟨_, _, _⟩) (by simp) _
      · exact hB.below (Nat.le_refl _) hBn
      · exact hBn
      · simp; omega
    · obtain ⟨hlt, hwd, hb1, rfl, rfl⟩ := h
      replace C2 := C2.out _ hb1 hB1
      replace hb1 := Lib.hid hb1
      go_wp2_with fail
      refine C2.mono ?_
      rintro e w1 ⟨X1, c1, rfl, m1_, m2_, i1, hb_⟩
      have hs1 := hBW.size
      replace hBW := hBW.trans (hb_.mono hBW.size)
      have hF : Fr (w.heap.size + 3) X1 := m2_.2.mono (by simp)
      have hz1 : w.heap.size + 3 ≤ w1.heap.size := by have := hb_.size; simp at this; omega
      clear hb_ hs1
      have hk_w1_0_0 : w1.cell? ⟨w.heap.size, 0, none⟩ = some (.bool n1) := (by rw [hBW.cell (p := ⟨w.heap.size, 0, none⟩) (by first | omega | (simp; done) | (simp; omega))]; go_simp; done)
      have hg_w1_0_0 : w1.frozen? ⟨w.heap.size, 0, none⟩ = false := (by rw [hBW.frozen (p := ⟨w.heap.size, 0, none⟩) (by first | omega | (simp; done) | (simp; omega))]; go_simp; done)
      have hk_w1_0_1 : w1.cell? ⟨w.heap.size, 1, none⟩ = some (.slice A (nd a1) ca) := (by rw [hBW.cell (p := ⟨w.heap.size, 1, none⟩) (by first | omega | (simp; done) | (simp; omega))]; go_simp; done)
      have hg_w1_0_1 : w1.frozen? ⟨w.heap.size, 1, none⟩ = false := (by rw [hBW.frozen (p := ⟨w.heap.size, 1, none⟩) (by first | omega | (simp; done) | (simp; omega))]; go_simp; done)
      have hk_w1_0_2 : w1.cell? ⟨w.heap.size, 2, none⟩ = some (.int .i64 E) := (by rw [hBW.cell (p := ⟨w.heap.size, 2, none⟩) (by first | omega | (simp; done) | (simp; omega))]; go_simp; done)
      have hg_w1_0_2 : w1.frozen? ⟨w.heap.size, 2, none⟩ = false := (by rw [hBW.frozen (p := ⟨w.heap.size, 2, none⟩) (by first | omega | (simp; done) | (simp; omega))]; go_simp; done)
      have hk_w1_1_0 : w1.cell? ⟨w.heap.size + 1, 0, none⟩ = some (.bool n2) := (by rw [hBW.cell (p := ⟨w.heap.size + 1, 0, none⟩) (by first | omega | (simp; done) | (simp; omega))]; go_simp; done)
      have hg_w1_1_0 : w1.frozen? ⟨w.heap.size + 1, 0, none⟩ = false := (by rw [hBW.frozen (p := ⟨w.heap.size + 1, 0, none⟩) (by first | omega | (simp; done) | (simp; omega))]; go_simp; done)
      have hk_w1_1_1 : w1.cell? ⟨w.heap.size + 1, 1, none⟩ = some (.slice B (nd b) cb) := (by rw [hBW.cell (p := ⟨w.heap.size + 1, 1, none⟩) (by first | omega | (simp; done) | (simp; omega))]; go_simp; done)
      have hg_w1_1_1 : w1.frozen? ⟨w.heap.size + 1, 1, none⟩ = false := (by rw [hBW.frozen (p := ⟨w.heap.size + 1, 1, none⟩) (by first | omega | (simp; done) | (simp; omega))]; go_simp; done)
      have hk_w1_1_2 : w1.cell? ⟨w.heap.size + 1, 2, none⟩ = some (.int .i64 e2) := (by rw [hBW.cell (p := ⟨w.heap.size + 1, 2, none⟩) (by first | omega | (simp; done) | (simp; omega))]; go_simp; done)
      have hg_w1_1_2 : w1.frozen? ⟨w.heap.size + 1, 2, none⟩ = false := (by rw [hBW.frozen (p := ⟨w.heap.size + 1, 2, none⟩) (by first | omega | (simp; done) | (simp; omega))]; go_simp; done)
      have hk_w1_2_0 : w1.cell? ⟨w.heap.size + 1 + 1, 0, none⟩ = some (.bool false) := (by rw [hBW.cell (p := ⟨w.heap.size + 1 + 1, 0, none⟩) (by first | omega | (simp; done) | (simp; omega))]; go_simp; done)
      have hg_w1_2_0 : w1.frozen? ⟨w.heap.size + 1 + 1, 0, none⟩ = false := (by rw [hBW.frozen (p := ⟨w.heap.size + 1 + 1, 0, none⟩) (by first | omega | (simp; done) | (simp; omega))]; go_simp; done)
      have hk_w1_2_1 : w1.cell? ⟨w.heap.size + 1 + 1, 1, none⟩ = some (.slice none 0 0) := (by rw [hBW.cell (p := ⟨w.heap.size + 1 + 1, 1, none⟩) (by first | omega | (simp; done) | (simp; omega))]; go_simp; done)
      have hg_w1_2_1 : w1.frozen? ⟨w.heap.size + 1 + 1, 1, none⟩ = false := (by rw [hBW.frozen (p := ⟨w.heap.size + 1 + 1, 1, none⟩) (by first | omega | (simp; done) | (simp; omega))]; go_simp; done)
      have hk_w1_2_2 : w1.cell? ⟨w.heap.size + 1 + 1, 2, none⟩ = some (.int .i64 0) := (by rw [hBW.cell (p := ⟨w.heap.size + 1 + 1, 2, none⟩) (by first | omega | (simp; done) | (simp; omega))]; go_simp; done)
      have hg_w1_2_2 : w1.frozen? ⟨w.heap.size + 1 + 1, 2, none⟩ = false := (by rw [hBW.frozen (p := ⟨w.heap.size + 1 + 1, 2, none⟩) (by first | omega | (simp; done) | (simp; omega))]; go_simp; done)
      go_wp2_with fail
      go_meet
      rw [hb1.out] at *
      have hBn : Below w.heap.size w ((w1.setCell ⟨w.heap.size + 1, 1, none⟩ (.slice X1 (nd (b * 2 ^ d)) c1)).setCell ⟨w.heap.size + 1, 2, none⟩ (.int .i64 E)) := ((hB0.trans (hBW.mono hB0.size)).setCell (p := ⟨_, _, _⟩) (by simp) _).setCell (p := ⟨_, _, _⟩) (by simp) _
      refine ⟨A, ca, X1, c1, ?_, ?_, ?_, ?_, ?_, ?_, ?_, ?_⟩
      · refine ⟨?_, ?_, ?_⟩ <;> (go_simp; done)
      · refine ⟨?_, ?_, ?_⟩ <;> (go_simp; done)
      · refine ⟨?_, ?_, ?_⟩ <;> (go_simp; done)
      · refine ⟨?_, ?_, ?_⟩ <;> (go_simp; done)
      · exact hA.below (Nat.le_refl _) hBn
      · exact (i1.setCell hF (p := ⟨_, _, _⟩) (by simp) _).setCell hF (p := ⟨_, _, _⟩) (by simp) _
      · exact hBn
      · simp; omega
  case rest =>
    obtain ⟨A1, c1, B1, c2, ⟨a0, a1_, a2⟩, ⟨b0, b1_, b2⟩, ⟨r0, r1, r2⟩, ⟨q0, q1, q2⟩, iA, iB, hBx, hz⟩ := hcut
    clear hBW hB0 hA1 hB1 hA hB hcase C1 C2
    by_cases hn : n1 = n2
    · have hout : sumN n1 n2 a1 b1 E = (n1, a1 + b1, E) := by unfold sumN; rw [if_pos hn]
      replace hout := Lib.hid hout
      subst hn
      go_wp2_with fail
      go_region_held3 (fun w' => w'.cell? ⟨w.heap.size, 0, none⟩ = some (.bool n1) ∧ w'.cell? ⟨w.heap.size, 1, none⟩ = some (.slice A1 (nd a1) c1) ∧ w'.cell? ⟨w.heap.size + 1, 1, none⟩ = some (.slice B1 (nd b1) c2) ∧ w'.cell? ⟨w.heap.size, 2, none⟩ = some (.int .i64 E))
        (first
          | exact hS5
          | exact ⟨a0, a1_, b1_, a2⟩
          | exact ⟨struct_cell hS5.1 (by omega), struct_cell hS5.2.1 (by omega), struct_cell hS5.2.2.1 (by omega), struct_cell hS5.2.2.2 (by omega)⟩
          | go_keep)
        (first
          | (go_at_call 101; refine (rplus_any _ _ _ _ a1 b1 _ ?_ ?_ ma mb mab).mono ?_; exact iA; exact iB; rintro e w5 ⟨A5, c5, rfl, n5_, n6_, i5, hb5⟩; have hS5 := (show w5.cell? ⟨w.heap.size, 0, none⟩ = some (.bool n1) ∧ w5.cell? ⟨w.heap.size, 1, none⟩ = some (.slice A1 (nd a1) c1) ∧ w5.cell? ⟨w.heap.size + 1, 1, none⟩ = some (.slice B1 (nd b1) c2) ∧ w5.cell? ⟨w.heap.size, 2, none⟩ = some (.int .i64 E) from ⟨cell_below hb5 a0, cell_below hb5 a1_, cell_below hb5 b1_, cell_below hb5 a2⟩); have hR0 := cell_below hb5 r0; have hR1 := cell_below hb5 r1; have hR2 := cell_below hb5 r2; have hQ0 := frozen_below hb5 r0 q0; have hQ1 := frozen_below hb5 r1 q1; have hQ2 := frozen_below hb5 r2 q2))
      have hz5 : w.heap.size + 3 ≤ w5.heap.size := by have := hb5.size; simp at this; omega
      have hF : Fr (w.heap.size + 3) A5 := n6_.2.mono (by simp; omega)
      have hb6 : Below w.heap.size w w5 := by first | exact hBx.trans (hb5.mono hBx.size) | exact hBx.drew.trans (hb5.mono hBx.size)
      go_wp2_with fail
      refine bodyPost_ret (v := NumV n1 A5 (a1 + b1) c5 E) ?_ rfl ?_
      · simp [results, Tryd.results69, go_sem, *]
      · rw [hout.out]
        exact ⟨A5, c5, rfl, n5_, ⟨n6_.1, hF.mono (by omega)⟩, struct_kept i5 hF (by omega) _ _ _, struct_below hb6 (by omega) _ _ _⟩
    · have hne : (n1 == n2) = false := by rw [beq_eq_false_iff_ne]; exact hn
      rcases Nat.lt_trichotomy a1 b1 with hc | hc | hc
      · have hout : sumN n1 n2 a1 b1 E = (n2, b1 - a1, E) := by unfold sumN; rw [if_neg hn, if_neg (by omega), if_neg (by omega)]
        replace hout := Lib.hid hout
        have hle : a1 ≤ b1 := by omega
        replace hc := (cmpI_lt hc).symm
        clear hn
        go_wp2_with fail
        refine (rcmp_c _ _ _ _ a1 b1 (-1) _ iA iB ma mb hc).mono ?_
        rintro e w4 ⟨rfl, hb4⟩
        replace q0 := frozen_below hb4 r0 q0
        replace q1 := frozen_below hb4 r1 q1
        replace q2 := frozen_below hb4 r2 q2
        replace a0 := cell_below hb4 a0
        replace a1_ := cell_below hb4 a1_
        replace a2 := cell_below hb4 a2
        replace b0 := cell_below hb4 b0
        replace b1_ := cell_below hb4 b1_
        replace b2 := cell_below hb4 b2
        replace r0 := cell_below hb4 r0
        replace r1 := cell_below hb4 r1
        replace r2 := cell_below hb4 r2
        replace iA := iA.below (Nat.le_refl _) hb4
        replace iB := iB.below (Nat.le_refl _) hb4
        replace hBx := hBx.trans (hb4.mono hBx.size)
        replace hz := Nat.le_trans hz hb4.size
        clear hb4
        go_wp2_with fail
        go_region_held3 (fun w' => w'.cell? ⟨w.heap.size + 1, 0, none⟩ = some (.bool n2) ∧ w'.cell? ⟨w.heap.size + 1, 1, none⟩ = some (.slice B1 (nd b1) c2) ∧ w'.cell? ⟨w.heap.size, 1, none⟩ = some (.slice A1 (nd a1) c1) ∧ w'.cell? ⟨w.heap.size, 2, none⟩ = some (.int .i64 E))
          (first
            | exact hS5
            | exact ⟨b0, b1_, a1_, a2⟩
            | exact ⟨struct_cell hS5.1 (by omega), struct_cell hS5.2.1 (by omega), struct_cell hS5.2.2.1 (by omega), struct_cell hS5.2.2.2 (by omega)⟩
            | go_keep)
          (first
            | (go_at_call 103; refine (rminus_any _ _ _ _ b1 a1 _ ?_ ?_ mb hle).mono ?_; exact iB; exact iA; rintro e w5 ⟨A5, c5, rfl, n5_, n6_, i5, hb5⟩; have hS5 := (show w5.cell? ⟨w.heap.size + 1, 0, none⟩ = some (.bool n2) ∧ w5.cell? ⟨w.heap.size + 1, 1, none⟩ = some (.slice B1 (nd b1) c2) ∧ w5.cell? ⟨w.heap.size, 1, none⟩ = some (.slice A1 (nd a1) c1) ∧ w5.cell? ⟨w.heap.size, 2, none⟩ = some (.int .i64 E) from ⟨cell_below hb5 b0, cell_below hb5 b1_, cell_below hb5 a1_, cell_below hb5 a2⟩); have hR0 := cell_below hb5 r0; have hR1 := cell_below hb5 r1; have hR2 := cell_below hb5 r2; have hQ0 := frozen_below hb5 r0 q0; have hQ1 := frozen_below hb5 r1 q1; have hQ2 := frozen_below hb5 r2 q2))
        have hz5 : w.heap.size + 3 ≤ w5.heap.size := by have := hb5.size; simp at this; omega
        have hF : Fr (w.heap.size + 3) A5 := n6_.2.mono (by simp; omega)
        have hb6 : Below w.heap.size w w5 := by first | exact hBx.trans (hb5.mono hBx.size) | exact hBx.drew.trans (hb5.mono hBx.size)
        go_wp2_with fail
        refine bodyPost_ret (v := NumV n2 A5 (b1 - a1) c5 E) ?_ rfl ?_
        · simp [results, Tryd.results69, go_sem, *]
        · rw [hout.out]
          exact ⟨A5, c5, rfl, n5_, ⟨n6_.1, hF.mono (by omega)⟩, struct_kept i5 hF (by omega) _ _ _, struct_below hb6 (by omega) _ _ _⟩
      · have hout : sumN n1 n2 a1 b1 E = (false, 0, 0) := by unfold sumN; rw [if_neg hn, if_pos hc]
        replace hout := Lib.hid hout
        replace hc := (cmpI_eq hc).symm
        clear hn
        go_wp2_with fail
        refine (rcmp_c _ _ _ _ a1 b1 (0) _ iA iB ma mb hc).mono ?_
        rintro e w4 ⟨rfl, hb4⟩
        replace q0 := frozen_below hb4 r0 q0
        replace q1 := frozen_below hb4 r1 q1
        replace q2 := frozen_below hb4 r2 q2
        replace a0 := cell_below hb4 a0
        replace a1_ := cell_below hb4 a1_
        replace a2 := cell_below hb4 a2
        replace b0 := cell_below hb4 b0
        replace b1_ := cell_below hb4 b1_
        replace b2 := cell_below hb4 b2
        replace r0 := cell_below hb4 r0
        replace r1 := cell_below hb4 r1
        replace r2 := cell_below hb4 r2
        replace iA := iA.below (Nat.le_refl _) hb4
        replace iB := iB.below (Nat.le_refl _) hb4
        replace hBx := hBx.trans (hb4.mono hBx.size)
        replace hz := Nat.le_trans hz hb4.size
        clear hb4
        go_wp2_with fail
        refine bodyPost_ret (v := .agg #[.bool false, .slice none 0 0, .int .i64 0]) ?_ rfl ?_
        · simp [results, Tryd.results69, go_sem, *]
        · rw [hout.out]
          exact ⟨none, 0, congrArg Ending.returned numV_zero, Nat.le_of_eq nd_zero, ⟨Nat.zero_le _, Fr.nil _⟩, by rw [nd_zero]; exact IsL.none_, struct_below hBx (by omega) _ _ _⟩
      · have hout : sumN n1 n2 a1 b1 E = (n1, a1 - b1, E) := by unfold sumN; rw [if_neg hn, if_neg (by omega), if_pos hc]
        replace hout := Lib.hid hout
        have hle : b1 ≤ a1 := by omega
        replace hc := (cmpI_gt hc).symm
        clear hn
        go_wp2_with fail
        refine (rcmp_c _ _ _ _ a1 b1 (1) _ iA iB ma mb hc).mono ?_
        rintro e w4 ⟨rfl, hb4⟩
        replace q0 := frozen_below hb4 r0 q0
        replace q1 := frozen_below hb4 r1 q1
        replace q2 := frozen_below hb4 r2 q2
        replace a0 := cell_below hb4 a0
        replace a1_ := cell_below hb4 a1_
        replace a2 := cell_below hb4 a2
        replace b0 := cell_below hb4 b0
        replace b1_ := cell_below hb4 b1_
        replace b2 := cell_below hb4 b2
        replace r0 := cell_below hb4 r0
        replace r1 := cell_below hb4 r1
        replace r2 := cell_below hb4 r2
        replace iA := iA.below (Nat.le_refl _) hb4
        replace iB := iB.below (Nat.le_refl _) hb4
        replace hBx := hBx.trans (hb4.mono hBx.size)
        replace hz := Nat.le_trans hz hb4.size
        clear hb4
        go_wp2_with fail
        go_region_held3 (fun w' => w'.cell? ⟨w.heap.size, 0, none⟩ = some (.bool n1) ∧ w'.cell? ⟨w.heap.size, 1, none⟩ = some (.slice A1 (nd a1) c1) ∧ w'.cell? ⟨w.heap.size + 1, 1, none⟩ = some (.slice B1 (nd b1) c2) ∧ w'.cell? ⟨w.heap.size, 2, none⟩ = some (.int .i64 E))
          (first
            | exact hS5
            | exact ⟨a0, a1_, b1_, a2⟩
            | exact ⟨struct_cell hS5.1 (by omega), struct_cell hS5.2.1 (by omega), struct_cell hS5.2.2.1 (by omega), struct_cell hS5.2.2.2 (by omega)⟩
            | go_keep)
          (first
            | (go_at_call 103; refine (rminus_any _ _ _ _ a1 b1 _ ?_ ?_ ma hle).mono ?_; exact iA; exact iB; rintro e w5 ⟨A5, c5, rfl, n5_, n6_, i5, hb5⟩; have hS5 := (show w5.cell? ⟨w.heap.size, 0, none⟩ = some (.bool n1) ∧ w5.cell? ⟨w.heap.size, 1, none⟩ = some (.slice A1 (nd a1) c1) ∧ w5.cell? ⟨w.heap.size + 1, 1, none⟩ = some (.slice B1 (nd b1) c2) ∧ w5.cell? ⟨w.heap.size, 2, none⟩ = some (.int .i64 E) from ⟨cell_below hb5 a0, cell_below hb5 a1_, cell_below hb5 b1_, cell_below hb5 a2⟩); have hR0 := cell_below hb5 r0; have hR1 := cell_below hb5 r1; have hR2 := cell_below hb5 r2; have hQ0 := frozen_below hb5 r0 q0; have hQ1 := frozen_below hb5 r1 q1; have hQ2 := frozen_below hb5 r2 q2))
        have hz5 : w.heap.size + 3 ≤ w5.heap.size := by have := hb5.size; simp at this; omega
        have hF : Fr (w.heap.size + 3) A5 := n6_.2.mono (by simp; omega)
        have hb6 : Below w.heap.size w w5 := by first | exact hBx.trans (hb5.mono hBx.size) | exact hBx.drew.trans (hb5.mono hBx.size)
        go_wp2_with fail
        refine bodyPost_ret (v := NumV n1 A5 (a1 - b1) c5 E) ?_ rfl ?_
        · simp [results, Tryd.results69, go_sem, *]
        · rw [hout.out]
          exact ⟨A5, c5, rfl, n5_, ⟨n6_.1, hF.mono (by omega)⟩, struct_kept i5 hF (by omega) _ _ _, struct_below hb6 (by omega) _ _ _⟩
end Go.Proofs.YtldmbneckcjonaaDoor
namespace Go.Proofs.YtldmbneckcjonaaDoor
theorem cutF_up {m n : Nat} {ng : Bool} {K : Int} (hK : K ≤ 0) : cutF m ng n K = n * 2 ^ (-K).toNat := by unfold cutF; rw [if_pos hK]
theorem cutF_between {m n k : Nat} {ng : Bool} (hk : 0 < k) : n / 2 ^ k ≤ cutF m ng n k ∧ cutF m ng n k ≤ n / 2 ^ k + 1 := by
  unfold cutF; rw [if_neg (by omega), Int.toNat_natCast]; split <;> omega
theorem pow_lt_iff {a b : Nat} : 2 ^ a ≤ 2 ^ b ↔ a ≤ b := Nat.pow_le_pow_iff_right (by decide)
theorem cutF_size {m n : Nat} {ng : Bool} (h : n ≠ 0) : 2 ^ 52 ≤ cutF m ng n ((bl n : Int) - 53) ∧ cutF m ng n ((bl n : Int) - 53) ≤ 2 ^ 53 := by
  have h1 := two_bl_le h
  have h2 := lt_two_bl n
  have h0 := bl_pos.2 h
  by_cases hK : (bl n : Int) - 53 ≤ 0
  · rw [cutF_up hK]
    have e : (-((bl n : Int) - 53)).toNat = 53 - bl n := by omega
    rw [e]
    constructor
    · have := Nat.mul_le_mul_right (2 ^ (53 - bl n)) h1
      rw [← Nat.pow_add, show bl n - 1 + (53 - bl n) = 52 from by omega] at this
      exact this
    · have := Nat.mul_le_mul_right (2 ^ (53 - bl n)) (Nat.le_of_lt h2)
      rw [← Nat.pow_add, show bl n + (53 - bl n) = 53 from by omega] at this
      exact this
  · obtain ⟨k, hk⟩ : ∃ k, bl n = k + 53 := ⟨bl n - 53, by omega⟩
    have hkp : 0 < k := by omega
    rw [hk] at h1 h2 ⊢
    rw [show ((k + 53 : Nat) : Int) - 53 = (k : Int) from by omega]
    obtain ⟨c1, c2⟩ := cutF_between (m := m) (n := n) (ng := ng) hkp
    have hp := Nat.two_pow_pos k
    have d1 : 2 ^ 52 ≤ n / 2 ^ k := by
      rw [Nat.le_div_iff_mul_le hp, ← Nat.pow_add]; rw [show k + 53 - 1 = 52 + k from by omega] at h1; exact h1
    have d2 : n / 2 ^ k < 2 ^ 53 := by
      rw [Nat.div_lt_iff_lt_mul hp, ← Nat.pow_add]; rw [show k + 53 = 53 + k from by omega] at h2; exact h2
    omega
theorem cutF_small {m n j : Nat} {ng : Bool} {K : Int} (h : (bl n : Int) - K ≤ j) : cutF m ng n K ≤ 2 ^ j := by
  have h2 := lt_two_bl n
  by_cases hK : K ≤ 0
  · rw [cutF_up hK]
    have := Nat.mul_le_mul_right (2 ^ (-K).toNat) (Nat.le_of_lt h2)
    rw [← Nat.pow_add] at this
    exact Nat.le_trans this (pow_lt_iff.2 (by omega))
  · obtain ⟨k, rfl⟩ : ∃ k : Nat, K = k := ⟨K.toNat, by omega⟩
    obtain ⟨_, c2⟩ := cutF_between (m := m) (n := n) (ng := ng) (show 0 < k by omega)
    have hp := Nat.two_pow_pos k
    have d2 : n / 2 ^ k < 2 ^ j := by
      rw [Nat.div_lt_iff_lt_mul hp, ← Nat.pow_add]
      exact Nat.lt_of_lt_of_le h2 (pow_lt_iff.2 (by omega))
    omega
def topR (m : Nat) (ng : Bool) (n : Nat) (e : Int) : Int := (bl (cutF m ng n ((bl n : Int) - 53)) : Int) + e + bl n - 54
/-- What the reference's Round gives: bits and flags. -/
@[irreducible] def roundR (m : Nat) (ng : Bool) (n : Nat) (e : Int) : Nat × Nat :=
  if 1024 ≤ topR m ng n e then (signN ng + (if m = 2 ∨ (m = 3 ∧ ng = true) ∨ (m = 4 ∧ ng = false) then 9218868437227405311 else 9218868437227405312), 5)
  else if topR m ng n e < -1022 then (signN ng + cutF m ng n (-1074 - e), if cutB n (-1074 - e) then 3 else 0)
  else (signN ng + (topR m ng n e + 1023).toNat * 4503599627370496 + ((if bl (cutF m ng n ((bl n : Int) - 53)) = 54 then cutF m ng n ((bl n : Int) - 53) / 2 else cutF m ng n ((bl n : Int) - 53)) - 4503599627370496), if cutB n ((bl n : Int) - 53) then 1 else 0)
end Go.Proofs.YtldmbneckcjonaaDoor
namespace Go.Proofs.YtldmbneckcjonaaDoor
open Go.RowKit
set_option maxRecDepth 100000 in
set_option maxHeartbeats 2000000 in
theorem rround_big (ng : Bool) (A : Option Addr) (ca n m y : Nat) (oth : Bool) (e K1 T : Int) (w : World) (hA : IsL w A (nd n) n) (sn : Sm n) (my : Mod y) (hK2 : IntKind.i64.wrap ((bl n : Int) - 53) = K1)
    (C1 : Hid (∀ W, IsL W A (nd n) n → Calls Tryd.prog 110 #[.slice A (nd n) ca, .int .i64 K1, .bool ng, .int .i64 m] W (DownOut y oth W)))
    (t1 : IntKind.i64.wrap ((bl y : Int) + e) = (bl y : Int) + e) (t2 : IntKind.i64.wrap ((bl y : Int) + e + bl n) = (bl y : Int) + e + bl n) (t3 : IntKind.i64.wrap ((bl y : Int) + e + bl n - 54) = T) (hT : 1024 ≤ T) (hm : m < 5) (b : Nat) (hb : Hid (b = signN ng + (if m = 2 ∨ (m = 3 ∧ ng = true) ∨ (m = 4 ∧ ng = false) then 9218868437227405311 else 9218868437227405312))) :
    Calls Tryd.prog 95 #[NumV ng A n ca e, .int .i64 m] w fun e' w' => e' = .returned (.tuple #[.int .u64 b, .int .i64 5]) ∧ Below w.heap.size w w' := by
  obtain ⟨M, hM⟩ : ∃ M : Int, M = m := ⟨_, rfl⟩
  rw [← hM] at C1
  rw [← hM]
  replace hM := Lib.hid hM
  have S := Lib.hid (fun (W : World) (hW : IsL W A (nd n) n) => rsize_any A ca n W hW sn.mod)
  have S2 := Lib.hid (fun (W : World) (B : Option Addr) (c : Nat) (hW : IsL W B (nd y) y) => rsize_any B c y W hW my)
  have hBW := Below.refl (w.alloc (.cells #[.bool ng, .slice A (nd n) ca, .int .i64 e] 119)).heap.size (w.alloc (.cells #[.bool ng, .slice A (nd n) ca, .int .i64 e] 119))
  have hB0 : Below w.heap.size w (w.alloc (.cells #[.bool ng, .slice A (nd n) ca, .int .i64 e] 119)) := (Below.refl _ w).alloc (by simp) _
  have hA1 := hA.below (Nat.le_refl _) hB0
  go_enter Tryd.func95, Tryd.ntmps95
  go_wp2_with (go_at_call 93; refine (rsign_any _ _).mono ?_; rintro e w' ⟨rfl, rfl⟩)
  go_region_held3 (fun w' => w'.cell? ⟨w.heap.size, 0, none⟩ = some (.bool ng) ∧ w'.cell? ⟨w.heap.size, 1, none⟩ = some (.slice A (nd n) ca))
    (first
      | exact hS5
      | (refine ⟨?_, ?_⟩ <;> (go_simp; done))
      | go_keep)
    (first
      | (go_at_call 104; refine (S.out _ ?_).mono ?_; exact hA1; rintro e w4 ⟨rfl, rfl⟩)
      | (go_at_call 110; refine (C1.out _ ?_).mono ?_; exact hA1; rintro e w5 ⟨A5, c5, rfl, n5_, n6_, i5, hb5⟩; have hS5 : w5.cell? ⟨w.heap.size, 0, none⟩ = some (.bool ng) ∧ w5.cell? ⟨w.heap.size, 1, none⟩ = some (.slice A (nd n) ca) := (by (refine ⟨cell_below hb5 ?_, cell_below hb5 ?_⟩ <;> (go_simp; done))); have hE5 : w5.cell? ⟨w.heap.size, 2, none⟩ = some (.int .i64 e) := (by (refine cell_below hb5 ?_; go_simp; done))))
  have hB5 : Below w.heap.size w w5 := by first | exact hB0.trans (hb5.mono hB0.size) | exact hB0.drew.trans (hb5.mono hB0.size) | exact hB0.drew.drew.trans (hb5.mono hB0.size)
  clear hb5 hA1 hBW hB0 C1
  obtain ⟨k0, k1⟩ := hS5
  have iA := hA.below (Nat.le_refl _) hB5
  go_wp2_with fail
  go_region_held3 (fun w' => w'.cell? ⟨w.heap.size, 1, none⟩ = some (.slice A (nd n) ca) ∧ w'.cell? ⟨w.heap.size, 2, none⟩ = some (.int .i64 e))
    (first
      | exact ⟨k1, hE5⟩
      | go_keep)
    (first
      | (go_at_call_of 104 (Value.slice A5 (nd y) c5); refine (S2.out _ _ _ ?_).mono ?_; exact i5; rintro e w4 ⟨rfl, rfl⟩)
      | (go_at_call_of 104 (Value.slice A (nd n) ca); refine (S.out _ ?_).mono ?_; exact iA; rintro e w4 ⟨rfl, rfl⟩))
  clear S S2
  have hM5 : M = 0 ∨ M = 1 ∨ M = 2 ∨ M = 3 ∨ M = 4 := by have := hM.out; omega
  rcases hM5 with rfl | rfl | rfl | rfl | rfl
  · have hm0 : m = 0 := by have := hM.out; omega
    subst hm0
    cases ng
    all_goals
      have hb' := hb.out
      simp [signN] at hb'
      subst hb'
      go_wp2_with fail
      go_ret2
      refine ⟨rfl, ?_⟩
      repeat' (first | with_reducible exact Below.refl _ _ | with_reducible assumption | with_reducible refine Below.drew ?_ | with_reducible refine bdrewN ?_ _ | with_reducible refine Below.alloc ?_ ?_ _ | with_reducible refine Below.setCell ?_ ?_ _ | with_reducible refine Below.trans ?_ (Below.mono (by assumption) ?_) | omega | (simp; done) | (simp; omega))
  · have hm0 : m = 1 := by have := hM.out; omega
    subst hm0
    cases ng
    all_goals
      have hb' := hb.out
      simp [signN] at hb'
      subst hb'
      go_wp2_with fail
      go_ret2
      refine ⟨rfl, ?_⟩
      repeat' (first | with_reducible exact Below.refl _ _ | with_reducible assumption | with_reducible refine Below.drew ?_ | with_reducible refine bdrewN ?_ _ | with_reducible refine Below.alloc ?_ ?_ _ | with_reducible refine Below.setCell ?_ ?_ _ | with_reducible refine Below.trans ?_ (Below.mono (by assumption) ?_) | omega | (simp; done) | (simp; omega))
  · have hm0 : m = 2 := by have := hM.out; omega
    subst hm0
    cases ng
    all_goals
      have hb' := hb.out
      simp [signN] at hb'
      subst hb'
      go_wp2_with fail
      go_ret2
      refine ⟨rfl, ?_⟩
      repeat' (first | with_reducible exact Below.refl _ _ | with_reducible assumption | with_reducible refine Below.drew ?_ | with_reducible refine bdrewN ?_ _ | with_reducible refine Below.alloc ?_ ?_ _ | with_reducible refine Below.setCell ?_ ?_ _ | with_reducible refine Below.trans ?_ (Below.mono (by assumption) ?_) | omega | (simp; done) | (simp; omega))
  · have hm0 : m = 3 := by have := hM.out; omega
    subst hm0
    cases ng
    all_goals
      have hb' := hb.out
      simp [signN] at hb'
      subst hb'
      go_wp2_with fail
      go_ret2
      refine ⟨rfl, ?_⟩
      repeat' (first | with_reducible exact Below.refl _ _ | with_reducible assumption | with_reducible refine Below.drew ?_ | with_reducible refine bdrewN ?_ _ | with_reducible refine Below.alloc ?_ ?_ _ | with_reducible refine Below.setCell ?_ ?_ _ | with_reducible refine Below.trans ?_ (Below.mono (by assumption) ?_) | omega | (simp; done) | (simp; omega))
  · have hm0 : m = 4 := by have := hM.out; omega
    subst hm0
    cases ng
    all_goals
      have hb' := hb.out
      simp [signN] at hb'
      subst hb'
      go_wp2_with fail
      go_ret2
      refine ⟨rfl, ?_⟩
      repeat' (first | with_reducible exact Below.refl _ _ | with_reducible assumption | with_reducible refine Below.drew ?_ | with_reducible refine bdrewN ?_ _ | with_reducible refine Below.alloc ?_ ?_ _ | with_reducible refine Below.setCell ?_ ?_ _ | with_reducible refine Below.trans ?_ (Below.mono (by assumption) ?_) | omega | (simp; done) | (simp; omega))
end Go.Proofs.YtldmbneckcjonaaDoor
namespace Go.Proofs.YtldmbneckcjonaaDoor
open Go.RowKit
set_option maxRecDepth 100000 in
set_option maxHeartbeats 2000000 in
theorem rround_sub (ng : Bool) (A : Option Addr) (ca n m y : Nat) (oth : Bool) (e K1 T : Int) (w : World) (hA : IsL w A (nd n) n) (sn : Sm n) (my : Mod y) (hK2 : IntKind.i64.wrap ((bl n : Int) - 53) = K1)
    (C1 : Hid (∀ W, IsL W A (nd n) n → Calls Tryd.prog 110 #[.slice A (nd n) ca, .int .i64 K1, .bool ng, .int .i64 m] W (DownOut y oth W)))
    (t1 : IntKind.i64.wrap ((bl y : Int) + e) = (bl y : Int) + e) (t2 : IntKind.i64.wrap ((bl y : Int) + e + bl n) = (bl y : Int) + e + bl n) (t3 : IntKind.i64.wrap ((bl y : Int) + e + bl n - 54) = T) (hT : ¬ 1024 ≤ T) (hT2 : T < -1022) (y2 : Nat) (oth2 : Bool) (K2 : Int) (hk2 : IntKind.i64.wrap (-1074 - e) = K2)
    (C2 : Hid (∀ W, IsL W A (nd n) n → Calls Tryd.prog 110 #[.slice A (nd n) ca, .int .i64 K2, .bool ng, .int .i64 m] W (DownOut y2 oth2 W))) (hy2 : Hid (y2 < 4611686018427387904)) (y3 : Int) (hy3 : IntKind.u64.wrap (y2 : Int) = y3) (b : Nat) (hb : IntKind.u64.wrap ((signN ng : Int) + y3) = b) :
    Calls Tryd.prog 95 #[NumV ng A n ca e, .int .i64 m] w fun e' w' => e' = .returned (.tuple #[.int .u64 b, .int .i64 (if oth2 then 3 else 0)]) ∧ Below w.heap.size w w' := by
  have S := Lib.hid (fun (W : World) (hW : IsL W A (nd n) n) => rsize_any A ca n W hW sn.mod)
  have S2 := Lib.hid (fun (W : World) (B : Option Addr) (c : Nat) (hW : IsL W B (nd y) y) => rsize_any B c y W hW my)
  have hBW := Below.refl (w.alloc (.cells #[.bool ng, .slice A (nd n) ca, .int .i64 e] 119)).heap.size (w.alloc (.cells #[.bool ng, .slice A (nd n) ca, .int .i64 e] 119))
  have hB0 : Below w.heap.size w (w.alloc (.cells #[.bool ng, .slice A (nd n) ca, .int .i64 e] 119)) := (Below.refl _ w).alloc (by simp) _
  have hA1 := hA.below (Nat.le_refl _) hB0
  go_enter Tryd.func95, Tryd.ntmps95
  go_wp2_with (go_at_call 93; refine (rsign_any _ _).mono ?_; rintro e w' ⟨rfl, rfl⟩)
  go_region_held3 (fun w' => w'.cell? ⟨w.heap.size, 0, none⟩ = some (.bool ng) ∧ w'.cell? ⟨w.heap.size, 1, none⟩ = some (.slice A (nd n) ca))
    (first
      | exact hS5
      | (refine ⟨?_, ?_⟩ <;> (go_simp; done))
      | go_keep)
    (first
      | (go_at_call 104; refine (S.out _ ?_).mono ?_; exact hA1; rintro e w4 ⟨rfl, rfl⟩)
      | (go_at_call 110; refine (C1.out _ ?_).mono ?_; exact hA1; rintro e w5 ⟨A5, c5, rfl, n5_, n6_, i5, hb5⟩; have hS5 : w5.cell? ⟨w.heap.size, 0, none⟩ = some (.bool ng) ∧ w5.cell? ⟨w.heap.size, 1, none⟩ = some (.slice A (nd n) ca) := (by (refine ⟨cell_below hb5 ?_, cell_below hb5 ?_⟩ <;> (go_simp; done))); have hE5 : w5.cell? ⟨w.heap.size, 2, none⟩ = some (.int .i64 e) := (by (refine cell_below hb5 ?_; go_simp; done))))
  have hB5 : Below w.heap.size w w5 := by first | exact hB0.trans (hb5.mono hB0.size) | exact hB0.drew.trans (hb5.mono hB0.size) | exact hB0.drew.drew.trans (hb5.mono hB0.size)
  clear hb5 hA1 hBW hB0 C1
  obtain ⟨k0, k1⟩ := hS5
  have iA := hA.below (Nat.le_refl _) hB5
  go_wp2_with fail
  go_region_held3 (fun w' => w'.cell? ⟨w.heap.size, 1, none⟩ = some (.slice A (nd n) ca) ∧ w'.cell? ⟨w.heap.size, 2, none⟩ = some (.int .i64 e))
    (first
      | exact ⟨k1, hE5⟩
      | go_keep)
    (first
      | (go_at_call_of 104 (Value.slice A5 (nd y) c5); refine (S2.out _ _ _ ?_).mono ?_; exact i5; rintro e w4 ⟨rfl, rfl⟩)
      | (go_at_call_of 104 (Value.slice A (nd n) ca); refine (S.out _ ?_).mono ?_; exact iA; rintro e w4 ⟨rfl, rfl⟩))
  clear S S2
  have hk3 : wrap64 (-1074 - e) = K2 := by rw [IntKind.wrap_i64] at hk2; simpa only [wrap64] using hk2
  go_wp2_with fail
  refine (C2.out _ ?_).mono ?_
  exact iA
  rintro e' w6 ⟨A6, c6, rfl, n7_, n8_, i6, hb6⟩
  have hB6 : Below w.heap.size w w6 := by first | exact hB5.trans (hb6.mono hB5.size) | exact hB5.drew.trans (hb6.mono hB5.size) | exact hB5.drew.drew.trans (hb6.mono hB5.size) | exact (bdrew hB5 _).trans (hb6.mono hB5.size)
  clear C2 hb6
  cases oth2
  all_goals
    go_wp2_with (go_at_call 111; refine (rsmall_any _ _ y2 _ i6 hy2.out).mono ?_; rintro e w7 ⟨rfl, rfl⟩)
    go_ret2
    refine ⟨rfl, ?_⟩
    repeat' (first | with_reducible exact Below.refl _ _ | with_reducible assumption | with_reducible refine Below.drew ?_ | with_reducible refine bdrewN ?_ _ | with_reducible refine Below.alloc ?_ ?_ _ | with_reducible refine Below.setCell ?_ ?_ _ | with_reducible refine Below.trans ?_ (Below.mono (by assumption) ?_) | omega | (simp; done) | (simp; omega))
theorem ret_uu {a a' : Int} {v : Value} (h : a = a') : Ending.returned (.tuple #[.int .u64 a, v]) = .returned (.tuple #[.int .u64 a', v]) := by rw [h]
set_option maxRecDepth 100000 in
set_option maxHeartbeats 2000000 in
theorem rround_norm (ng : Bool) (A : Option Addr) (ca n m y : Nat) (oth : Bool) (e K1 T : Int) (w : World) (hA : IsL w A (nd n) n) (sn : Sm n) (my : Mod y) (hK2 : IntKind.i64.wrap ((bl n : Int) - 53) = K1)
    (C1 : Hid (∀ W, IsL W A (nd n) n → Calls Tryd.prog 110 #[.slice A (nd n) ca, .int .i64 K1, .bool ng, .int .i64 m] W (DownOut y oth W)))
    (t1 : IntKind.i64.wrap ((bl y : Int) + e) = (bl y : Int) + e) (t2 : IntKind.i64.wrap ((bl y : Int) + e + bl n) = (bl y : Int) + e + bl n) (t3 : IntKind.i64.wrap ((bl y : Int) + e + bl n - 54) = T) (hT : ¬ 1024 ≤ T) (hT2 : ¬ T < -1022) (hbl : ((bl y : Int) == 54) = false) (hy2 : Hid (y < 4611686018427387904)) (b : Nat) (hb : Hid (IntKind.u64.wrap (IntKind.u64.wrap ((signN ng : Int) + (T + 1023) * 4503599627370496) + IntKind.u64.wrap (wrap64 ((y : Int) - 4503599627370496))) = b)) :
    Calls Tryd.prog 95 #[NumV ng A n ca e, .int .i64 m] w fun e' w' => e' = .returned (.tuple #[.int .u64 b, .int .i64 (if oth then 1 else 0)]) ∧ Below w.heap.size w w' := by
  have S := Lib.hid (fun (W : World) (hW : IsL W A (nd n) n) => rsize_any A ca n W hW sn.mod)
  have S2 := Lib.hid (fun (W : World) (B : Option Addr) (c : Nat) (hW : IsL W B (nd y) y) => rsize_any B c y W hW my)
  have hBW := Below.refl (w.alloc (.cells #[.bool ng, .slice A (nd n) ca, .int .i64 e] 119)).heap.size (w.alloc (.cells #[.bool ng, .slice A (nd n) ca, .int .i64 e] 119))
  have hB0 : Below w.heap.size w (w.alloc (.cells #[.bool ng, .slice A (nd n) ca, .int .i64 e] 119)) := (Below.refl _ w).alloc (by simp) _
  have hA1 := hA.below (Nat.le_refl _) hB0
  go_enter Tryd.func95, Tryd.ntmps95
  go_wp2_with (go_at_call 93; refine (rsign_any _ _).mono ?_; rintro e w' ⟨rfl, rfl⟩)
  go_region_held3 (fun w' => w'.cell? ⟨w.heap.size, 0, none⟩ = some (.bool ng) ∧ w'.cell? ⟨w.heap.size, 1, none⟩ = some (.slice A (nd n) ca))
    (first
      | exact hS5
      | (refine ⟨?_, ?_⟩ <;> (go_simp; done))
      | go_keep)
    (first
      | (go_at_call 104; refine (S.out _ ?_).mono ?_; exact hA1; rintro e w4 ⟨rfl, rfl⟩)
      | (go_at_call 110; refine (C1.out _ ?_).mono ?_; exact hA1; rintro e w5 ⟨A5, c5, rfl, n5_, n6_, i5, hb5⟩; have hS5 : w5.cell? ⟨w.heap.size, 0, none⟩ = some (.bool ng) ∧ w5.cell? ⟨w.heap.size, 1, none⟩ = some (.slice A (nd n) ca) := (by (refine ⟨cell_below hb5 ?_, cell_below hb5 ?_⟩ <;> (go_simp; done))); have hE5 : w5.cell? ⟨w.heap.size, 2, none⟩ = some (.int .i64 e) := (by (refine cell_below hb5 ?_; go_simp; done))))
  have hB5 : Below w.heap.size w w5 := by first | exact hB0.trans (hb5.mono hB0.size) | exact hB0.drew.trans (hb5.mono hB0.size) | exact hB0.drew.drew.trans (hb5.mono hB0.size)
  clear hb5 hA1 hBW hB0 C1
  obtain ⟨k0, k1⟩ := hS5
  have iA := hA.below (Nat.le_refl _) hB5
  go_wp2_with fail
  go_region_held3 (fun w' => w'.cell? ⟨w.heap.size, 1, none⟩ = some (.slice A (nd n) ca) ∧ w'.cell? ⟨w.heap.size, 2, none⟩ = some (.int .i64 e))
    (first
      | exact ⟨k1, hE5⟩
      | go_keep)
    (first
      | (go_at_call_of 104 (Value.slice A5 (nd y) c5); refine (S2.out _ _ _ ?_).mono ?_; exact i5; rintro e w4 ⟨rfl, rfl⟩)
      | (go_at_call_of 104 (Value.slice A (nd n) ca); refine (S.out _ ?_).mono ?_; exact iA; rintro e w4 ⟨rfl, rfl⟩))
  clear S
  go_wp2_with (go_at_call 104; refine (S2.out _ _ _ ?_).mono ?_; exact i5; rintro e w4 ⟨rfl, rfl⟩)
  cases oth
  all_goals
    go_wp2_with (go_at_call 111; refine (rsmall_any _ _ y _ ?_ hy2.out).mono ?_; exact i5; rintro e w7 ⟨rfl, rfl⟩)
    go_ret2
    refine ⟨ret_uu hb.out, ?_⟩
    repeat' (first | with_reducible exact Below.refl _ _ | with_reducible assumption | with_reducible refine Below.drew ?_ | with_reducible refine bdrewN ?_ _ | with_reducible refine Below.alloc ?_ ?_ _ | with_reducible refine Below.setCell ?_ ?_ _ | with_reducible refine Below.trans ?_ (Below.mono (by assumption) ?_) | omega | (simp; done) | (simp; omega))
set_option maxRecDepth 100000 in
set_option maxHeartbeats 2000000 in
theorem rround_norm54 (ng : Bool) (A : Option Addr) (ca n m y : Nat) (oth : Bool) (e K1 T : Int) (w : World) (hA : IsL w A (nd n) n) (sn : Sm n) (my : Mod y) (hK2 : IntKind.i64.wrap ((bl n : Int) - 53) = K1)
    (C1 : Hid (∀ W, IsL W A (nd n) n → Calls Tryd.prog 110 #[.slice A (nd n) ca, .int .i64 K1, .bool ng, .int .i64 m] W (DownOut y oth W)))
    (t1 : IntKind.i64.wrap ((bl y : Int) + e) = (bl y : Int) + e) (t2 : IntKind.i64.wrap ((bl y : Int) + e + bl n) = (bl y : Int) + e + bl n) (t3 : IntKind.i64.wrap ((bl y : Int) + e + bl n - 54) = T) (hT : ¬ 1024 ≤ T) (hT2 : ¬ T < -1022) (hbl : ((bl y : Int) == 54) = true) (y2 : Nat) (wh : Bool) (hy2 : Hid (y2 < 4611686018427387904)) (C2 : Hid (∀ W B c, IsL W B (nd y) y → Calls Tryd.prog 112 #[.slice B (nd y) c, .int .i64 1] W (DownOut y2 wh W))) (b : Nat) (hb : Hid (IntKind.u64.wrap (IntKind.u64.wrap ((signN ng : Int) + (T + 1023) * 4503599627370496) + IntKind.u64.wrap (wrap64 ((y2 : Int) - 4503599627370496))) = b)) :
    Calls Tryd.prog 95 #[NumV ng A n ca e, .int .i64 m] w fun e' w' => e' = .returned (.tuple #[.int .u64 b, .int .i64 (if oth then 1 else 0)]) ∧ Below w.heap.size w w' := by
  have S := Lib.hid (fun (W : World) (hW : IsL W A (nd n) n) => rsize_any A ca n W hW sn.mod)
  have S2 := Lib.hid (fun (W : World) (B : Option Addr) (c : Nat) (hW : IsL W B (nd y) y) => rsize_any B c y W hW my)
  have hBW := Below.refl (w.alloc (.cells #[.bool ng, .slice A (nd n) ca, .int .i64 e] 119)).heap.size (w.alloc (.cells #[.bool ng, .slice A (nd n) ca, .int .i64 e] 119))
  have hB0 : Below w.heap.size w (w.alloc (.cells #[.bool ng, .slice A (nd n) ca, .int .i64 e] 119)) := (Below.refl _ w).alloc (by simp) _
  have hA1 := hA.below (Nat.le_refl _) hB0
  go_enter Tryd.func95, Tryd.ntmps95
  go_wp2_with (go_at_call 93; refine (rsign_any _ _).mono ?_; rintro e w' ⟨rfl, rfl⟩)
  go_region_held3 (fun w' => w'.cell? ⟨w.heap.size, 0, none⟩ = some (.bool ng) ∧ w'.cell? ⟨w.heap.size, 1, none⟩ = some (.slice A (nd n) ca))
    (first
      | exact hS5
      | (refine ⟨?_, ?_⟩ <;> (go_simp; done))
      | go_keep)
    (first
      | (go_at_call 104; refine (S.out _ ?_).mono ?_; exact hA1; rintro e w4 ⟨rfl, rfl⟩)
      | (go_at_call 110; refine (C1.out _ ?_).mono ?_; exact hA1; rintro e w5 ⟨A5, c5, rfl, n5_, n6_, i5, hb5⟩; have hS5 : w5.cell? ⟨w.heap.size, 0, none⟩ = some (.bool ng) ∧ w5.cell? ⟨w.heap.size, 1, none⟩ = some (.slice A (nd n) ca) := (by (refine ⟨cell_below hb5 ?_, cell_below hb5 ?_⟩ <;> (go_simp; done))); have hE5 : w5.cell? ⟨w.heap.size, 2, none⟩ = some (.int .i64 e) := (by (refine cell_below hb5 ?_; go_simp; done))))
  have hB5 : Below w.heap.size w w5 := by first | exact hB0.trans (hb5.mono hB0.size) | exact hB0.drew.trans (hb5.mono hB0.size) | exact hB0.drew.drew.trans (hb5.mono hB0.size)
  clear hb5 hA1 hBW hB0 C1
  obtain ⟨k0, k1⟩ := hS5
  have iA := hA.below (Nat.le_refl _) hB5
  go_wp2_with fail
  go_region_held3 (fun w' => w'.cell? ⟨w.heap.size, 1, none⟩ = some (.slice A (nd n) ca) ∧ w'.cell? ⟨w.heap.size, 2, none⟩ = some (.int .i64 e))
    (first
      | exact ⟨k1, hE5⟩
      | go_keep)
    (first
      | (go_at_call_of 104 (Value.slice A5 (nd y) c5); refine (S2.out _ _ _ ?_).mono ?_; exact i5; rintro e w4 ⟨rfl, rfl⟩)
      | (go_at_call_of 104 (Value.slice A (nd n) ca); refine (S.out _ ?_).mono ?_; exact iA; rintro e w4 ⟨rfl, rfl⟩))
  clear S
  go_wp2_with (go_at_call 104; refine (S2.out _ _ _ ?_).mono ?_; exact i5; rintro e w4 ⟨rfl, rfl⟩)
  refine (C2.out _ _ _ ?_).mono ?_
  exact i5
  rintro e' w6 ⟨A6, c6, rfl, n7_, n8_, i6, hb6⟩
  have hB6 : Below w.heap.size w w6 := by first | exact hB5.trans (hb6.mono hB5.size) | exact hB5.drew.trans (hb6.mono hB5.size) | exact hB5.drew.drew.trans (hb6.mono hB5.size) | exact (bdrew hB5 _).trans (hb6.mono hB5.size)
  clear C2 hb6 S2
  cases oth
  all_goals
    go_wp2_with (go_at_call 111; refine (rsmall_any _ _ y2 _ i6 hy2.out).mono ?_; rintro e w7 ⟨rfl, rfl⟩)
    go_ret2
    refine ⟨ret_uu hb.out, ?_⟩
    repeat' (first | with_reducible exact Below.refl _ _ | with_reducible assumption | with_reducible refine Below.drew ?_ | with_reducible refine bdrewN ?_ _ | with_reducible refine Below.alloc ?_ ?_ _ | with_reducible refine Below.setCell ?_ ?_ _ | with_reducible refine Below.trans ?_ (Below.mono (by assumption) ?_) | omega | (simp; done) | (simp; omega))
end Go.Proofs.YtldmbneckcjonaaDoor
namespace Go.Proofs.YtldmbneckcjonaaDoor
open Go.RowKit
theorem ite_cast (c : Bool) (a b : Nat) : ((if c then a else b : Nat) : Int) = if c then (a : Int) else (b : Int) := by cases c <;> rfl
theorem rround_any (ng : Bool) (A : Option Addr) (ca n m : Nat) (e : Int) (w : World) (hA : IsL w A (nd n) n) (hn : n ≠ 0) (hm : m < 5) (hl : bl n ≤ 40000) (he1 : -40000 ≤ e) (he2 : e ≤ 40000) :
    Calls Tryd.prog 95 #[NumV ng A n ca e, .int .i64 m] w fun e' w' => e' = .returned (.tuple #[.int .u64 (roundR m ng n e).1, .int .i64 (roundR m ng n e).2]) ∧ Below w.heap.size w w' := by
  have sn : Sm n := by unfold Sm; omega
  obtain ⟨y1, y2⟩ := cutF_size (m := m) (ng := ng) hn
  have hs : signN ng = 0 ∨ signN ng = 9223372036854775808 := by cases ng; exact .inl rfl; exact .inr rfl
  have C1 : Hid (∀ W, IsL W A (nd n) n → Calls Tryd.prog 110 #[.slice A (nd n) ca, .int .i64 ((bl n : Int) - 53), .bool ng, .int .i64 m] W (DownOut (cutF m ng n ((bl n : Int) - 53)) (cutB n ((bl n : Int) - 53)) W)) :=
    fun W hW => rcut_any A ca n _ m ng W hW hm sn (by omega) (by omega)
  have ht : topR m ng n e = (bl (cutF m ng n ((bl n : Int) - 53)) : Int) + e + bl n - 54 := rfl
  generalize hT : topR m ng n e = T at *
  unfold roundR
  rw [hT]
  have bly : 53 ≤ bl (cutF m ng n ((bl n : Int) - 53)) ∧ bl (cutF m ng n ((bl n : Int) - 53)) ≤ 54 := ⟨lt_bl.2 y1, bl_le.2 (by omega)⟩
  generalize cutF m ng n ((bl n : Int) - 53) = y at *
  generalize cutB n ((bl n : Int) - 53) = oth at *
  have my : Mod y := by unfold Mod; omega
  have t1 : IntKind.i64.wrap ((bl y : Int) + e) = (bl y : Int) + e := by rw [IntKind.wrap_i64]; omega
  have t2 : IntKind.i64.wrap ((bl y : Int) + e + bl n) = (bl y : Int) + e + bl n := by rw [IntKind.wrap_i64]; omega
  have t3 : IntKind.i64.wrap ((bl y : Int) + e + bl n - 54) = T := by rw [IntKind.wrap_i64]; omega
  have k2 : IntKind.i64.wrap ((bl n : Int) - 53) = (bl n : Int) - 53 := by rw [IntKind.wrap_i64]; omega
  by_cases h1 : 1024 ≤ T
  · rw [if_pos h1]
    exact rround_big ng A ca n m y oth e _ T w hA sn my k2 C1 t1 t2 t3 h1 hm _ rfl
  · rw [if_neg h1]
    by_cases h2 : T < -1022
    · rw [if_pos h2]
      have hc := cutF_small (m := m) (n := n) (ng := ng) (K := -1074 - e) (j := 52) (by omega)
      have C2 : Hid (∀ W, IsL W A (nd n) n → Calls Tryd.prog 110 #[.slice A (nd n) ca, .int .i64 (-1074 - e), .bool ng, .int .i64 m] W (DownOut (cutF m ng n (-1074 - e)) (cutB n (-1074 - e)) W)) :=
        fun W hW => rcut_any A ca n _ m ng W hW hm sn (by omega) (by omega)
      generalize cutF m ng n (-1074 - e) = z at *
      have := rround_sub ng A ca n m y oth e _ T w hA sn my k2 C1 t1 t2 t3 h1 h2 z (cutB n (-1074 - e)) (-1074 - e) (by rw [IntKind.wrap_i64]; omega) C2 (show z < 4611686018427387904 by omega) z (by rw [IntKind.wrap_u64]; omega) (signN ng + z) (by rw [IntKind.wrap_u64]; omega)
      refine this.mono fun e' w' h => ⟨?_, h.2⟩
      rw [h.1]
      show _ = Ending.returned (.tuple #[_, .int .i64 ((if cutB n (-1074 - e) then 3 else 0 : Nat) : Int)])
      rw [ite_cast]; rfl
    · rw [if_neg h2]
      have hy62 : y < 4611686018427387904 := by omega
      by_cases h3 : bl y = 54
      · rw [if_pos h3]
        have hyy : 2 ^ 53 ≤ y := lt_bl.1 (by omega)
        have C2 : Hid (∀ W B c, IsL W B (nd y) y → Calls Tryd.prog 112 #[.slice B (nd y) c, .int .i64 1] W (DownOut (y / 2) (decide (y % 2 = 0)) W)) := fun W B c hW => by
          have := rdown_any B c y 1 W hW my (by omega)
          rw [Nat.pow_one] at this
          exact this
        have := rround_norm54 ng A ca n m y oth e _ T w hA sn my k2 C1 t1 t2 t3 h1 h2 (by rw [h3]; rfl) (y / 2) _ (show y / 2 < 4611686018427387904 by omega) C2 (signN ng + (T + 1023).toNat * 4503599627370496 + (y / 2 - 4503599627370496)) (by show _ = _; unfold wrap64; rw [IntKind.wrap_u64, IntKind.wrap_u64, IntKind.wrap_u64]; omega)
        refine this.mono fun e' w' h => ⟨?_, h.2⟩
        rw [h.1]
        show _ = Ending.returned (.tuple #[_, .int .i64 ((if oth then 1 else 0 : Nat) : Int)])
        rw [ite_cast]; rfl
      · rw [if_neg h3]
        have := rround_norm ng A ca n m y oth e _ T w hA sn my k2 C1 t1 t2 t3 h1 h2 (by rw [beq_eq_false_iff_ne]; omega) hy62 (signN ng + (T + 1023).toNat * 4503599627370496 + (y - 4503599627370496)) (by show _ = _; unfold wrap64; rw [IntKind.wrap_u64, IntKind.wrap_u64, IntKind.wrap_u64]; omega)
        refine this.mono fun e' w' h => ⟨?_, h.2⟩
        rw [h.1]
        show _ = Ending.returned (.tuple #[_, .int .i64 ((if oth then 1 else 0 : Nat) : Int)])
        rw [ite_cast]; rfl
end Go.Proofs.YtldmbneckcjonaaDoor
namespace Go.Proofs.YtldmbneckcjonaaDoor
open Go.RowKit
def RefOut (p : Nat × Nat) (w : World) (e : Ending) (w' : World) : Prop := e = .returned (RV p.1 p.2 false) ∧ Below w.heap.size w w'
def sumR (n1 n2 : Bool) (a b : Nat) (e1 e2 : Int) : Bool × Nat × Int := if e2 < e1 then sumN n1 n2 (a * 2 ^ (e1 - e2).toNat) b e2 else sumN n1 n2 a (b * 2 ^ (e2 - e1).toNat) e1
theorem bl_sh {a d k : Nat} (ha : bl a ≤ k) : bl (a * 2 ^ d) ≤ k + d + 1 := by have := bl_mul_le a (2 ^ d); have := bl_pow d; omega
theorem rsum_any (n1 n2 : Bool) (A B : Option Addr) (ca cb a b : Nat) (e1 e2 : Int) (w : World) (hA : IsL w A (nd a) a) (hB : IsL w B (nd b) b) (la : bl a ≤ 200) (lb : bl b ≤ 200) (h1 : -5000 ≤ e1) (h2 : e1 ≤ 5000) (h3 : -5000 ≤ e2) (h4 : e2 ≤ 5000) :
    Calls Tryd.prog 69 #[NumV n1 A a ca e1, NumV n2 B b cb e2] w (NumOut (sumR n1 n2 a b e1 e2).1 (sumR n1 n2 a b e1 e2).2.1 (sumR n1 n2 a b e1 e2).2.2 w) := by
  have ma : Mod a := by unfold Mod; omega
  have mb : Mod b := by unfold Mod; omega
  unfold sumR
  by_cases h : e2 < e1
  · rw [if_pos h]
    have l1 := bl_sh (d := (e1 - e2).toNat) la
    have l2 := bl_add_le (a * 2 ^ (e1 - e2).toNat) b
    exact rsum_e n1 n2 A B ca cb a b _ b (e1 - e2).toNat e1 e2 e2 w hA hB ma mb (by unfold Mod; omega) mb (by unfold Mod; omega) (.inl ⟨h, by unfold wrap64; omega, rfl, rfl, rfl⟩)
  · rw [if_neg h]
    have l1 := bl_sh (d := (e2 - e1).toNat) lb
    have l2 := bl_add_le a (b * 2 ^ (e2 - e1).toNat)
    exact rsum_e n1 n2 A B ca cb a b a _ (e2 - e1).toNat e1 e2 e1 w hA hB ma mb ma (by unfold Mod; omega) (by unfold Mod; omega) (.inr ⟨h, by unfold wrap64; omega, rfl, rfl, rfl⟩)
theorem sumN_bl {n1 n2 : Bool} {a b k : Nat} {E : Int} (ha : bl a ≤ k) (hb : bl b ≤ k) : bl (sumN n1 n2 a b E).2.1 ≤ k + 1 := by
  have h1 := bl_add_le a b
  have h2 := bl_mono (Nat.sub_le a b)
  have h3 := bl_mono (Nat.sub_le b a)
  unfold sumN
  split
  · show bl (a + b) ≤ _; omega
  · split
    · show bl 0 ≤ _; rw [bl_zero]; omega
    · split
      · show bl (a - b) ≤ _; omega
      · show bl (b - a) ≤ _; omega
theorem sumN_e {n1 n2 : Bool} {a b : Nat} {E : Int} : (sumN n1 n2 a b E).2.2 = E ∨ (sumN n1 n2 a b E).2.2 = 0 := by
  unfold sumN; split; exact .inl rfl; split; exact .inr rfl; split; exact .inl rfl; exact .inl rfl
theorem sumR_bound {n1 n2 : Bool} {a b : Nat} {e1 e2 : Int} (la : bl a ≤ 200) (lb : bl b ≤ 200) (h1 : -5000 ≤ e1) (h2 : e1 ≤ 5000) (h3 : -5000 ≤ e2) (h4 : e2 ≤ 5000) :
    bl (sumR n1 n2 a b e1 e2).2.1 ≤ 40000 ∧ -40000 ≤ (sumR n1 n2 a b e1 e2).2.2 ∧ (sumR n1 n2 a b e1 e2).2.2 ≤ 40000 := by
  unfold sumR
  split
  · have l1 := bl_sh (d := (e1 - e2).toNat) la
    have := sumN_bl (n1 := n1) (n2 := n2) (E := e2) (k := 20000) (show bl (a * 2 ^ (e1 - e2).toNat) ≤ 20000 by omega) (show bl b ≤ 20000 by omega)
    rcases sumN_e (n1 := n1) (n2 := n2) (a := a * 2 ^ (e1 - e2).toNat) (b := b) (E := e2) with h | h <;> rw [h] <;> omega
  · have l1 := bl_sh (d := (e2 - e1).toNat) lb
    have := sumN_bl (n1 := n1) (n2 := n2) (E := e1) (k := 20000) (show bl a ≤ 20000 by omega) (show bl (b * 2 ^ (e2 - e1).toNat) ≤ 20000 by omega)
    rcases sumN_e (n1 := n1) (n2 := n2) (a := a) (b := b * 2 ^ (e2 - e1).toNat) (E := e1) with h | h <;> rw [h] <;> omega
abbrev BOXR : Obj := .cells #[.int .u64 0, .int .i64 0, .bool false] 66
set_option maxRecDepth 100000 in
set_option maxHeartbeats 1000000 in
theorem rfinite_any (ng : Bool) (A : Option Addr) (ca n m : Nat) (e : Int) (w : World) (hA : IsL w A (nd n) n) (hn : n ≠ 0) (hm : m < 5) (hl : bl n ≤ 40000) (he1 : -40000 ≤ e) (he2 : e ≤ 40000) :
    Calls Tryd.prog 65 #[NumV ng A n ca e, .int .i64 m] w (RefOut (roundR m ng n e) w) := by
  have C1 := Lib.hid (fun (W : World) (hW : IsL W A (nd n) n) => rround_any ng A ca n m e W hW hn hm hl he1 he2)
  generalize roundR m ng n e = r at *
  obtain ⟨b, f⟩ := r
  have hB0 : Below w.heap.size w ((w.alloc (.cells #[.bool ng, .slice A (nd n) ca, .int .i64 e] 119)).alloc BOXR) := ((Below.refl _ w).alloc (by simp) _).alloc (by simp) _
  have hA1 := hA.below (Nat.le_refl _) hB0
  clear hn hm hl he1 he2
  go_enter Tryd.func65, Tryd.ntmps65
  go_wp2_with fail
  refine (C1.out _ hA1).mono ?_
  rintro e w1 ⟨rfl, hb1⟩
  have hB1 := hB0.trans (hb1.mono hB0.size)
  have hk_w1_0_0 : w1.cell? ⟨w.heap.size + 1, 0, none⟩ = some (.int .u64 0) := (by rw [hb1.cell (p := ⟨w.heap.size + 1, 0, none⟩) (by first | omega | (simp; done) | (simp; omega))]; go_simp; done)
  have hg_w1_0_0 : w1.frozen? ⟨w.heap.size + 1, 0, none⟩ = false := (by rw [hb1.frozen (p := ⟨w.heap.size + 1, 0, none⟩) (by first | omega | (simp; done) | (simp; omega))]; go_simp; done)
  have hk_w1_0_1 : w1.cell? ⟨w.heap.size + 1, 1, none⟩ = some (.int .i64 0) := (by rw [hb1.cell (p := ⟨w.heap.size + 1, 1, none⟩) (by first | omega | (simp; done) | (simp; omega))]; go_simp; done)
  have hg_w1_0_1 : w1.frozen? ⟨w.heap.size + 1, 1, none⟩ = false := (by rw [hb1.frozen (p := ⟨w.heap.size + 1, 1, none⟩) (by first | omega | (simp; done) | (simp; omega))]; go_simp; done)
  have hk_w1_0_2 : w1.cell? ⟨w.heap.size + 1, 2, none⟩ = some (.bool false) := (by rw [hb1.cell (p := ⟨w.heap.size + 1, 2, none⟩) (by first | omega | (simp; done) | (simp; omega))]; go_simp; done)
  have hg_w1_0_2 : w1.frozen? ⟨w.heap.size + 1, 2, none⟩ = false := (by rw [hb1.frozen (p := ⟨w.heap.size + 1, 2, none⟩) (by first | omega | (simp; done) | (simp; omega))]; go_simp; done)
  go_wp2_with fail
  refine bodyPost_ret (v := RV b f false) ?_ rfl ⟨rfl, ?_⟩
  · simp [results, Tryd.results65, go_sem, *]
  repeat' (first | with_reducible exact Below.refl _ _ | with_reducible assumption | with_reducible refine Below.drew ?_ | with_reducible refine bdrewN ?_ _ | with_reducible refine Below.alloc ?_ ?_ _ | with_reducible refine Below.setCell ?_ ?_ _ | with_reducible refine Below.trans ?_ (Below.mono (by assumption) ?_) | omega | (simp; done) | (simp; omega))
end Go.Proofs.YtldmbneckcjonaaDoor
namespace Go.Proofs.YtldmbneckcjonaaDoor
theorem cutF_eq (m : Nat) (ng : Bool) (n : Nat) (K : Int) : cutF m ng n K = cutS m ng n false K := by unfold cutF cutS; rw [Bool.or_false]
theorem cutB_eq (n : Nat) (K : Int) : cutB n K = lostS n false K := by unfold cutB lostS; rw [Bool.or_false]
theorem roundR_eq (m : Nat) (ng : Bool) (n : Nat) (e : Int) : roundR m ng n e = roundS m ng n false e := by
  unfold roundR roundS topR topS; simp only [cutF_eq, cutB_eq]
/-- The reference's sum. -/
theorem sumN_val {n1 n2 : Bool} {a b : Nat} {E : Int} (hE : -5000 ≤ E) : ((sumN n1 n2 a b E).2.1 ≠ 0 ↔ (sumV n1 n2 (val a E) (val b E)).2 ≠ 0) ∧ ((sumN n1 n2 a b E).2.1 ≠ 0 → ∀ m, roundS m (sumN n1 n2 a b E).1 (sumN n1 n2 a b E).2.1 false (sumN n1 n2 a b E).2.2 = roundS m (sumV n1 n2 (val a E) (val b E)).1 (sumV n1 n2 (val a E) (val b E)).2 false (-5000)) := by
  have hp := Nat.two_pow_pos (E + 5000).toNat
  unfold sumN sumV
  by_cases hn : n1 = n2
  · simp only [if_pos hn]
    have e : val a E + val b E = val (a + b) E := by unfold val; rw [Nat.add_mul]
    rw [e]
    exact ⟨not_congr val_eq_zero.symm, fun h m => roundS_val h hE⟩
  · simp only [if_neg hn]
    rcases Nat.lt_trichotomy a b with h | h | h
    · have hv : val a E < val b E := Nat.mul_lt_mul_of_pos_right h hp
      have e : val b E - val a E = val (b - a) E := by unfold val; rw [Nat.sub_mul]
      simp only [if_neg (show ¬ a = b by omega), if_neg (show ¬ b < a by omega), if_pos hv, e]
      exact ⟨not_congr val_eq_zero.symm, fun h m => roundS_val h hE⟩
    · subst h
      simp only [if_true, if_neg (Nat.lt_irrefl _), Nat.sub_self]
      exact ⟨by simp, fun h => absurd rfl h⟩
    · have hv : val b E < val a E := Nat.mul_lt_mul_of_pos_right h hp
      have e : val a E - val b E = val (a - b) E := by unfold val; rw [Nat.sub_mul]
      simp only [if_neg (show ¬ a = b by omega), if_pos (show b < a by omega), if_neg (show ¬ val a E < val b E by omega), e]
      exact ⟨not_congr val_eq_zero.symm, fun h m => roundS_val h hE⟩
theorem sumR_val {n1 n2 : Bool} {a b : Nat} {e1 e2 : Int} (h1 : -5000 ≤ e1) (h2 : -5000 ≤ e2) : ((sumR n1 n2 a b e1 e2).2.1 ≠ 0 ↔ (sumV n1 n2 (val a e1) (val b e2)).2 ≠ 0) ∧ ((sumR n1 n2 a b e1 e2).2.1 ≠ 0 → ∀ m, roundS m (sumR n1 n2 a b e1 e2).1 (sumR n1 n2 a b e1 e2).2.1 false (sumR n1 n2 a b e1 e2).2.2 = roundS m (sumV n1 n2 (val a e1) (val b e2)).1 (sumV n1 n2 (val a e1) (val b e2)).2 false (-5000)) := by
  unfold sumR
  by_cases h : e2 < e1
  · rw [if_pos h]
    have e : val (a * 2 ^ (e1 - e2).toNat) e2 = val a e1 := by unfold val; rw [Nat.mul_assoc, ← Nat.pow_add]; congr 2; omega
    rw [← e]; exact sumN_val h2
  · rw [if_neg h]
    have e : val (b * 2 ^ (e2 - e1).toNat) e1 = val b e2 := by unfold val; rw [Nat.mul_assoc, ← Nat.pow_add]; congr 2; omega
    rw [← e]; exact sumN_val h1
end Go.Proofs.YtldmbneckcjonaaDoor
