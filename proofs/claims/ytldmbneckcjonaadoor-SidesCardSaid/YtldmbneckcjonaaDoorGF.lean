/- Several texts in one: Of softfloatref: sign, small, exact, product. · Of softfloatref: cut: a number without its last k digits, rounded. · Of softfloatref: cut whole; sign, small, exact, marked. · Of softfloatref: quotient, squareRoot, reciprocal. · Of softfloatref: reciprocal, cubeRoot. · Of softfloatref: cubeRoot. -/
import Derived.Deep.RegionHeld3
import Derived.Deep.Cut
import Derived.Deep.DeepCutAuto
import Derived.Test.YtldmbneckcjonaaDoorGE
import Derived.Test.YtldmbneckcjonaaDoorGA
import Derived.Test.YtldmbneckcjonaaDoorGC
set_option linter.unusedVariables false
set_option linter.unusedSimpArgs false
namespace Go.Proofs.YtldmbneckcjonaaDoor
open Go.RowKit
/-- An exact number of the reference, as a value. -/
abbrev NumV (ng : Bool) (A : Option Addr) (n c : Nat) (e : Int) : Value := .agg #[.bool ng, .slice A (nd n) c, .int .i64 e]
theorem add_block (a : Addr) (n : Nat) : (a.add n).block = a.block := by unfold Addr.add; split <;> rfl
theorem IsL.setCell {w : World} {A : Option Addr} {k n B : Nat} (h : IsL w A k n) (hF : Fr B A) {p : Addr} (hp : p.block < B) (v : Value) : IsL (w.setCell p v) A k n := fun h0 => by
  obtain ⟨ad, e, hc⟩ := h h0
  refine ⟨ad, e, fun i hi => ?_⟩
  have hb := hF ad e
  rw [World.cell?_setCell_other _ _ _ _ (fun h => by rw [h, add_block] at hp; omega)]
  exact hc i hi
def NumOut (ng : Bool) (n : Nat) (e0 : Int) (w : World) (e : Ending) (w' : World) : Prop := ∃ A c, e = .returned (NumV ng A n c e0) ∧ nd n ≤ c ∧ (c ≤ maxLen ∧ Fr w.heap.size A) ∧ IsL w' A (nd n) n ∧ Below w.heap.size w w'
set_option maxRecDepth 100000 in
set_option maxHeartbeats 400000 in
theorem rproduct_any (n1 n2 : Bool) (A B : Option Addr) (ca cb a b : Nat) (e1 e2 : Int) (w : World) (hA : IsL w A (nd a) a) (hB : IsL w B (nd b) b) (ma : Mod a) (mb : Mod b) (hE : IntKind.i64.wrap (e1 + e2) = e1 + e2) :
    Calls Tryd.prog 66 #[NumV n1 A a ca e1, NumV n2 B b cb e2] w (NumOut (n1 != n2) (a * b) (e1 + e2) w) := by
  go_enter Tryd.func66, Tryd.ntmps66
  go_wp2_with fail
  have hA1 : IsL (((w.alloc (.cells #[.bool n1, .slice A (nd a) ca, .int .i64 e1] 119)).alloc (.cells #[.bool n2, .slice B (nd b) cb, .int .i64 e2] 119)).alloc (.cells #[.bool false, .slice none 0 0, .int .i64 0] 119)) A (nd a) a := hA.below (Nat.le_refl _) ((((Below.refl _ w).alloc (by simp) _).alloc (by simp) _).alloc (by simp; omega) _)
  have hB1 : IsL (((w.alloc (.cells #[.bool n1, .slice A (nd a) ca, .int .i64 e1] 119)).alloc (.cells #[.bool n2, .slice B (nd b) cb, .int .i64 e2] 119)).alloc (.cells #[.bool false, .slice none 0 0, .int .i64 0] 119)) B (nd b) b := hB.below (Nat.le_refl _) ((((Below.refl _ w).alloc (by simp) _).alloc (by simp) _).alloc (by simp; omega) _)
  clear hA hB
  go_region_held3 (fun w' => (w'.cell? ⟨w.heap.size, 0, none⟩ = some (.bool n1) ∧ w'.cell? ⟨w.heap.size, 1, none⟩ = some (.slice A (nd a) ca) ∧ w'.cell? ⟨w.heap.size, 2, none⟩ = some (.int .i64 e1)) ∧ (w'.cell? ⟨w.heap.size + 1, 0, none⟩ = some (.bool n2) ∧ w'.cell? ⟨w.heap.size + 1, 1, none⟩ = some (.slice B (nd b) cb) ∧ w'.cell? ⟨w.heap.size + 1, 2, none⟩ = some (.int .i64 e2)))
    (first
      | (refine ⟨⟨?_, ?_, ?_⟩, ?_, ?_, ?_⟩ <;> (go_simp; done))
      | (refine ⟨⟨?_, ?_, ?_⟩, ?_, ?_, ?_⟩ <;> (rw [hb1.cell (by first | omega | (simp; done) | (simp; omega))]; go_simp; done))
      | go_keep)
    (first | (go_at_call 96; refine (rtimes_any _ _ _ _ a b _ ?_ ?_ ma mb).mono ?_; exact hA1; exact hB1; rintro e w1 ⟨C, c, rfl, h1, h2, h3, hb1⟩; obtain ⟨hc_, hf_⟩ := bcell1 hb1))
  go_wp2_with fail
  refine bodyPost_ret (v := NumV (n1 != n2) C (a * b) c (e1 + e2)) ?_ rfl ⟨C, c, rfl, h1, ⟨h2.1, h2.2.mono (by simp; omega)⟩, ?_, ?_⟩
  · simp [results, Tryd.results66, go_sem, *]
    cases n1 <;> cases n2 <;> rfl
  · have hF : Fr (w.heap.size + 3) C := h2.2.mono (by simp)
    exact ((h3.setCell hF (p := ⟨_, _, _⟩) (by simp) _).setCell hF (p := ⟨_, _, _⟩) (by simp) _).setCell hF (p := ⟨_, _, _⟩) (by simp) _
  repeat' (first | with_reducible exact Below.refl _ _ | with_reducible assumption | with_reducible refine Below.drew ?_ | with_reducible refine bdrewN ?_ _ | with_reducible refine Below.alloc ?_ ?_ _ | with_reducible refine Below.setCell ?_ ?_ _ | with_reducible refine Below.trans ?_ (Below.mono (by assumption) ?_) | omega | (simp; done) | (simp; omega))
end Go.Proofs.YtldmbneckcjonaaDoor
namespace Go.Proofs.YtldmbneckcjonaaDoor
open Go.RowKit
theorem dg0_mod2 (n : Nat) : dg n 0 % 2 = n % 2 := by
  unfold dg; rw [Nat.pow_zero, Nat.div_one, BB_eq]; omega
theorem dg0_beq (n : Nat) : ((dg n 0 : Int) % 2 == 1) = decide (n % 2 = 1) := by
  have h := dg0_mod2 n
  by_cases h1 : n % 2 = 1
  · rw [decide_eq_true h1, beq_iff_eq]; omega
  · rw [decide_eq_false h1, beq_eq_false_iff_ne]; omega
theorem nd0_odd {n : Nat} (h : nd n = 0) : false = decide (n % 2 = 1) := by
  have := nd_eq_zero.1 h; subst this; rfl
theorem addr_zero (a : Addr) : a.add 0 = a := by unfold Addr.add; simp
set_option maxRecDepth 100000 in
set_option maxHeartbeats 1000000 in
theorem rcut_core (A : Option Addr) (ca a : Nat) (K K1 : Int) (m Q H N : Nat) (ng half odd none_ wh : Bool) (w : World) (hK : ¬ K ≤ 0) (hK1 : wrap64 (K - 1) = K1) (hm : m < 5) (mQ : Mod Q) (mQ1 : Mod (Q + 1))
    (C1 : Hid (∀ W, Below w.heap.size w W → Calls Tryd.prog 112 #[.slice A (nd a) ca, .int .i64 K] W (DownOut Q wh W)))
    (C2 : Hid (∀ W, Below w.heap.size w W → Calls Tryd.prog 112 #[.slice A (nd a) ca, .int .i64 K1] W (DownOut H none_ W)))
    (hh : Hid (half = decide (H % 2 = 1))) (ho : Hid (odd = decide (Q % 2 = 1))) (hw : Hid (wh = (!half && none_))) (hN : Hid (N = if upB m ng odd half (!none_) then Q + 1 else Q)) :
    Calls Tryd.prog 110 #[.slice A (nd a) ca, .int .i64 K, .bool ng, .int .i64 m] w (DownOut N (!wh) w) := by
  obtain ⟨M, hM⟩ : ∃ M : Int, M = m := ⟨_, rfl⟩
  rw [← hM]
  replace hM := Lib.hid hM
  have hB0 := Below.refl w.heap.size w
  go_enter Tryd.func110, Tryd.ntmps110
  go_wp2_with fail
  refine (C1.out _ hB0).mono ?_
  rintro e w1 ⟨A1, c1, rfl, n1, m1', i1, hb_⟩
  replace hB0 := hB0.trans (hb_.mono hB0.size)
  clear hb_
  go_wp2_with fail
  refine (C2.out _ hB0).mono ?_
  rintro e w2 ⟨A2, c2, rfl, n2, m2', i2, hb_⟩
  replace i1 := i1.below (Nat.le_refl _) hb_
  replace hB0 := hB0.trans (hb_.mono hB0.size)
  clear hb_ C1 C2
  go_upto_region 5 with (fail)
  go_cut [14] (fun s wx => s = .bool half ∧ w2 = wx)
  case first =>
    rcases Nat.eq_zero_or_pos (nd H) with h0 | h0
    · have hv := hh.out
      rw [← nd0_odd h0] at hv
      subst hv
      have hz : decide (0 < nd H) = false := by rw [decide_eq_false_iff_not]; omega
      clear h0
      go_wp2_with fail
      go_meet
      exact ⟨rfl, rfl⟩
    · obtain ⟨ad, rfl, hc⟩ := i2.at_ h0
      rw [addr_zero] at hc
      have hv := hh.out
      rw [← dg0_beq] at hv
      replace hv := hv.symm
      go_wp2_with fail
      go_meet
      exact ⟨rfl, rfl⟩
  case rest =>
    obtain ⟨rfl, rfl⟩ := hcut
    clear i2
    go_upto_region 6 with (fail)
    go_cut [15] (fun s wx => s = .bool odd ∧ w2 = wx)
    case first =>
      rcases Nat.eq_zero_or_pos (nd Q) with h0 | h0
      · have hv := ho.out
        rw [← nd0_odd h0] at hv
        subst hv
        have hz : decide (0 < nd Q) = false := by rw [decide_eq_false_iff_not]; omega
        clear h0
        go_wp2_with fail
        go_meet
        exact ⟨rfl, rfl⟩
      · obtain ⟨ad, rfl, hc⟩ := i1.at_ h0
        rw [addr_zero] at hc
        have hv := ho.out
        rw [← dg0_beq] at hv
        replace hv := hv.symm
        go_wp2_with fail
        go_meet
        exact ⟨rfl, rfl⟩
    case rest =>
      obtain ⟨rfl, rfl⟩ := hcut
      have hM5 : M = 0 ∨ M = 1 ∨ M = 2 ∨ M = 3 ∨ M = 4 := by have := hM.out; omega
      rcases hM5 with rfl | rfl | rfl | rfl | rfl
      · have hm0 : m = 0 := by have := hM.out; omega
        subst hm0
        cases half <;> cases none_ <;> cases odd
        · have ew : wh = false := hw.out
          subst ew
          have e : N = Q := hN.out
          subst e
          clear hN hh ho hw hM
          go_wp2_with fail
          go_ret2
          exact ⟨A1, c1, rfl, n1, m1', i1, hB0⟩
        · have ew : wh = false := hw.out
          subst ew
          have e : N = Q := hN.out
          subst e
          clear hN hh ho hw hM
          go_wp2_with fail
          go_ret2
          exact ⟨A1, c1, rfl, n1, m1', i1, hB0⟩
        · have ew : wh = true := hw.out
          subst ew
          have e : N = Q := hN.out
          subst e
          clear hN hh ho hw hM
          go_wp2_with fail
          go_ret2
          exact ⟨A1, c1, rfl, n1, m1', i1, hB0⟩
        · have ew : wh = true := hw.out
          subst ew
          have e : N = Q := hN.out
          subst e
          clear hN hh ho hw hM
          go_wp2_with fail
          go_ret2
          exact ⟨A1, c1, rfl, n1, m1', i1, hB0⟩
        · have ew : wh = false := hw.out
          subst ew
          have e : N = Q + 1 := hN.out
          subst e
          clear hN hh ho hw hM
          go_wp2_with fail
          refine (rnat1_any _).mono ?_
          rintro e w3 ⟨A3, c3, rfl, i3_n, i3_m, i3, hb_⟩
          replace i1 := i1.below (Nat.le_refl _) hb_
          replace hB0 := hB0.trans (hb_.mono hB0.size)
          clear hb_
          go_wp2_with fail
          refine (rplus_any _ _ _ _ Q 1 _ i1 i3 mQ m1 mQ1).mono ?_
          rintro e w4 ⟨A4, c4, rfl, i4_n, i4_m, i4, hb_⟩
          replace hB0 := hB0.trans (hb_.mono hB0.size)
          clear hb_
          go_wp2_with fail
          go_ret2
          exact ⟨A4, c4, rfl, i4_n, i4_m.1, i4, hB0⟩
        · have ew : wh = false := hw.out
          subst ew
          have e : N = Q + 1 := hN.out
          subst e
          clear hN hh ho hw hM
          go_wp2_with fail
          refine (rnat1_any _).mono ?_
          rintro e w3 ⟨A3, c3, rfl, i3_n, i3_m, i3, hb_⟩
          replace i1 := i1.below (Nat.le_refl _) hb_
          replace hB0 := hB0.trans (hb_.mono hB0.size)
          clear hb_
          go_wp2_with fail
          refine (rplus_any _ _ _ _ Q 1 _ i1 i3 mQ m1 mQ1).mono ?_
          rintro e w4 ⟨A4, c4, rfl, i4_n, i4_m, i4, hb_⟩
          replace hB0 := hB0.trans (hb_.mono hB0.size)
          clear hb_
          go_wp2_with fail
          go_ret2
          exact ⟨A4, c4, rfl, i4_n, i4_m.1, i4, hB0⟩
        · have ew : wh = false := hw.out
          subst ew
          have e : N = Q := hN.out
          subst e
          clear hN hh ho hw hM
          go_wp2_with fail
          go_ret2
          exact ⟨A1, c1, rfl, n1, m1', i1, hB0⟩
        · have ew : wh = false := hw.out
          subst ew
          have e : N = Q + 1 := hN.out
          subst e
          clear hN hh ho hw hM
          go_wp2_with fail
          refine (rnat1_any _).mono ?_
          rintro e w3 ⟨A3, c3, rfl, i3_n, i3_m, i3, hb_⟩
          replace i1 := i1.below (Nat.le_refl _) hb_
          replace hB0 := hB0.trans (hb_.mono hB0.size)
          clear hb_
          go_wp2_with fail
          refine (rplus_any _ _ _ _ Q 1 _ i1 i3 mQ m1 mQ1).mono ?_
          rintro e w4 ⟨A4, c4, rfl, i4_n, i4_m, i4, hb_⟩
          replace hB0 := hB0.trans (hb_.mono hB0.size)
          clear hb_
          go_wp2_with fail
          go_ret2
          exact ⟨A4, c4, rfl, i4_n, i4_m.1, i4, hB0⟩
      · have hm0 : m = 1 := by have := hM.out; omega
        subst hm0
        cases half <;> cases none_
        · have ew : wh = false := hw.out
          subst ew
          have e : N = Q := hN.out
          subst e
          clear hN hh ho hw hM
          go_wp2_with fail
          go_ret2
          exact ⟨A1, c1, rfl, n1, m1', i1, hB0⟩
        · have ew : wh = true := hw.out
          subst ew
          have e : N = Q := hN.out
          subst e
          clear hN hh ho hw hM
          go_wp2_with fail
          go_ret2
          exact ⟨A1, c1, rfl, n1, m1', i1, hB0⟩
        · have ew : wh = false := hw.out
          subst ew
          have e : N = Q + 1 := hN.out
          subst e
          clear hN hh ho hw hM
          go_wp2_with fail
          refine (rnat1_any _).mono ?_
          rintro e w3 ⟨A3, c3, rfl, i3_n, i3_m, i3, hb_⟩
          replace i1 := i1.below (Nat.le_refl _) hb_
          replace hB0 := hB0.trans (hb_.mono hB0.size)
          clear hb_
          go_wp2_with fail
          refine (rplus_any _ _ _ _ Q 1 _ i1 i3 mQ m1 mQ1).mono ?_
          rintro e w4 ⟨A4, c4, rfl, i4_n, i4_m, i4, hb_⟩
          replace hB0 := hB0.trans (hb_.mono hB0.size)
          clear hb_
          go_wp2_with fail
          go_ret2
          exact ⟨A4, c4, rfl, i4_n, i4_m.1, i4, hB0⟩
        · have ew : wh = false := hw.out
          subst ew
          have e : N = Q + 1 := hN.out
          subst e
          clear hN hh ho hw hM
          go_wp2_with fail
          refine (rnat1_any _).mono ?_
          rintro e w3 ⟨A3, c3, rfl, i3_n, i3_m, i3, hb_⟩
          replace i1 := i1.below (Nat.le_refl _) hb_
          replace hB0 := hB0.trans (hb_.mono hB0.size)
          clear hb_
          go_wp2_with fail
          refine (rplus_any _ _ _ _ Q 1 _ i1 i3 mQ m1 mQ1).mono ?_
          rintro e w4 ⟨A4, c4, rfl, i4_n, i4_m, i4, hb_⟩
          replace hB0 := hB0.trans (hb_.mono hB0.size)
          clear hb_
          go_wp2_with fail
          go_ret2
          exact ⟨A4, c4, rfl, i4_n, i4_m.1, i4, hB0⟩
      · have hm0 : m = 2 := by have := hM.out; omega
        subst hm0
        cases half <;> cases none_
        · have ew : wh = false := hw.out
          subst ew
          have e : N = Q := hN.out
          subst e
          clear hN hh ho hw hM
          go_wp2_with fail
          go_ret2
          exact ⟨A1, c1, rfl, n1, m1', i1, hB0⟩
        · have ew : wh = true := hw.out
          subst ew
          have e : N = Q := hN.out
          subst e
          clear hN hh ho hw hM
          go_wp2_with fail
          go_ret2
          exact ⟨A1, c1, rfl, n1, m1', i1, hB0⟩
        · have ew : wh = false := hw.out
          subst ew
          have e : N = Q := hN.out
          subst e
          clear hN hh ho hw hM
          go_wp2_with fail
          go_ret2
          exact ⟨A1, c1, rfl, n1, m1', i1, hB0⟩
        · have ew : wh = false := hw.out
          subst ew
          have e : N = Q := hN.out
          subst e
          clear hN hh ho hw hM
          go_wp2_with fail
          go_ret2
          exact ⟨A1, c1, rfl, n1, m1', i1, hB0⟩
      · have hm0 : m = 3 := by have := hM.out; omega
        subst hm0
        cases half <;> cases none_ <;> cases ng
        · have ew : wh = false := hw.out
          subst ew
          have e : N = Q + 1 := hN.out
          subst e
          clear hN hh ho hw hM
          go_wp2_with fail
          refine (rnat1_any _).mono ?_
          rintro e w3 ⟨A3, c3, rfl, i3_n, i3_m, i3, hb_⟩
          replace i1 := i1.below (Nat.le_refl _) hb_
          replace hB0 := hB0.trans (hb_.mono hB0.size)
          clear hb_
          go_wp2_with fail
          refine (rplus_any _ _ _ _ Q 1 _ i1 i3 mQ m1 mQ1).mono ?_
          rintro e w4 ⟨A4, c4, rfl, i4_n, i4_m, i4, hb_⟩
          replace hB0 := hB0.trans (hb_.mono hB0.size)
          clear hb_
          go_wp2_with fail
          go_ret2
          exact ⟨A4, c4, rfl, i4_n, i4_m.1, i4, hB0⟩
        · have ew : wh = false := hw.out
          subst ew
          have e : N = Q := hN.out
          subst e
          clear hN hh ho hw hM
          go_wp2_with fail
          go_ret2
          exact ⟨A1, c1, rfl, n1, m1', i1, hB0⟩
        · have ew : wh = true := hw.out
          subst ew
          have e : N = Q := hN.out
          subst e
          clear hN hh ho hw hM
          go_wp2_with fail
          go_ret2
          exact ⟨A1, c1, rfl, n1, m1', i1, hB0⟩
        · have ew : wh = true := hw.out
          subst ew
          have e : N = Q := hN.out
          subst e
          clear hN hh ho hw hM
          go_wp2_with fail
          go_ret2
          exact ⟨A1, c1, rfl, n1, m1', i1, hB0⟩
        · have ew : wh = false := hw.out
          subst ew
          have e : N = Q + 1 := hN.out
          subst e
          clear hN hh ho hw hM
          go_wp2_with fail
          refine (rnat1_any _).mono ?_
          rintro e w3 ⟨A3, c3, rfl, i3_n, i3_m, i3, hb_⟩
          replace i1 := i1.below (Nat.le_refl _) hb_
          replace hB0 := hB0.trans (hb_.mono hB0.size)
          clear hb_
          go_wp2_with fail
          refine (rplus_any _ _ _ _ Q 1 _ i1 i3 mQ m1 mQ1).mono ?_
          rintro e w4 ⟨A4, c4, rfl, i4_n, i4_m, i4, hb_⟩
          replace hB0 := hB0.trans (hb_.mono hB0.size)
          clear hb_
          go_wp2_with fail
          go_ret2
          exact ⟨A4, c4, rfl, i4_n, i4_m.1, i4, hB0⟩
        · have ew : wh = false := hw.out
          subst ew
          have e : N = Q := hN.out
          subst e
          clear hN hh ho hw hM
          go_wp2_with fail
          go_ret2
          exact ⟨A1, c1, rfl, n1, m1', i1, hB0⟩
        · have ew : wh = false := hw.out
          subst ew
          have e : N = Q + 1 := hN.out
          subst e
          clear hN hh ho hw hM
          go_wp2_with fail
          refine (rnat1_any _).mono ?_
          rintro e w3 ⟨A3, c3, rfl, i3_n, i3_m, i3, hb_⟩
          replace i1 := i1.below (Nat.le_refl _) hb_
          replace hB0 := hB0.trans (hb_.mono hB0.size)
          clear hb_
          go_wp2_with fail
          refine (rplus_any _ _ _ _ Q 1 _ i1 i3 mQ m1 mQ1).mono ?_
          rintro e w4 ⟨A4, c4, rfl, i4_n, i4_m, i4, hb_⟩
          replace hB0 := hB0.trans (hb_.mono hB0.size)
          clear hb_
          go_wp2_with fail
          go_ret2
          exact ⟨A4, c4, rfl, i4_n, i4_m.1, i4, hB0⟩
        · have ew : wh = false := hw.out
          subst ew
          have e : N = Q := hN.out
          subst e
          clear hN hh ho hw hM
          go_wp2_with fail
          go_ret2
          exact ⟨A1, c1, rfl, n1, m1', i1, hB0⟩
      · have hm0 : m = 4 := by have := hM.out; omega
        subst hm0
        cases half <;> cases none_ <;> cases ng
        · have ew : wh = false := hw.out
          subst ew
          have e : N = Q := hN.out
          subst e
          clear hN hh ho hw hM
          go_wp2_with fail
          go_ret2
          exact ⟨A1, c1, rfl, n1, m1', i1, hB0⟩
        · have ew : wh = false := hw.out
          subst ew
          have e : N = Q + 1 := hN.out
          subst e
          clear hN hh ho hw hM
          go_wp2_with fail
          refine (rnat1_any _).mono ?_
          rintro e w3 ⟨A3, c3, rfl, i3_n, i3_m, i3, hb_⟩
          replace i1 := i1.below (Nat.le_refl _) hb_
          replace hB0 := hB0.trans (hb_.mono hB0.size)
          clear hb_
          go_wp2_with fail
          refine (rplus_any _ _ _ _ Q 1 _ i1 i3 mQ m1 mQ1).mono ?_
          rintro e w4 ⟨A4, c4, rfl, i4_n, i4_m, i4, hb_⟩
          replace hB0 := hB0.trans (hb_.mono hB0.size)
          clear hb_
          go_wp2_with fail
          go_ret2
          exact ⟨A4, c4, rfl, i4_n, i4_m.1, i4, hB0⟩
        · have ew : wh = true := hw.out
          subst ew
          have e : N = Q := hN.out
          subst e
          clear hN hh ho hw hM
          go_wp2_with fail
          go_ret2
          exact ⟨A1, c1, rfl, n1, m1', i1, hB0⟩
        · have ew : wh = true := hw.out
          subst ew
          have e : N = Q := hN.out
          subst e
          clear hN hh ho hw hM
          go_wp2_with fail
          go_ret2
          exact ⟨A1, c1, rfl, n1, m1', i1, hB0⟩
        · have ew : wh = false := hw.out
          subst ew
          have e : N = Q := hN.out
          subst e
          clear hN hh ho hw hM
          go_wp2_with fail
          go_ret2
          exact ⟨A1, c1, rfl, n1, m1', i1, hB0⟩
        · have ew : wh = false := hw.out
          subst ew
          have e : N = Q + 1 := hN.out
          subst e
          clear hN hh ho hw hM
          go_wp2_with fail
          refine (rnat1_any _).mono ?_
          rintro e w3 ⟨A3, c3, rfl, i3_n, i3_m, i3, hb_⟩
          replace i1 := i1.below (Nat.le_refl _) hb_
          replace hB0 := hB0.trans (hb_.mono hB0.size)
          clear hb_
          go_wp2_with fail
          refine (rplus_any _ _ _ _ Q 1 _ i1 i3 mQ m1 mQ1).mono ?_
          rintro e w4 ⟨A4, c4, rfl, i4_n, i4_m, i4, hb_⟩
          replace hB0 := hB0.trans (hb_.mono hB0.size)
          clear hb_
          go_wp2_with fail
          go_ret2
          exact ⟨A4, c4, rfl, i4_n, i4_m.1, i4, hB0⟩
        · have ew : wh = false := hw.out
          subst ew
          have e : N = Q := hN.out
          subst e
          clear hN hh ho hw hM
          go_wp2_with fail
          go_ret2
          exact ⟨A1, c1, rfl, n1, m1', i1, hB0⟩
        · have ew : wh = false := hw.out
          subst ew
          have e : N = Q + 1 := hN.out
          subst e
          clear hN hh ho hw hM
          go_wp2_with fail
          refine (rnat1_any _).mono ?_
          rintro e w3 ⟨A3, c3, rfl, i3_n, i3_m, i3, hb_⟩
          replace i1 := i1.below (Nat.le_refl _) hb_
          replace hB0 := hB0.trans (hb_.mono hB0.size)
          clear hb_
          go_wp2_with fail
          refine (rplus_any _ _ _ _ Q 1 _ i1 i3 mQ m1 mQ1).mono ?_
          rintro e w4 ⟨A4, c4, rfl, i4_n, i4_m, i4, hb_⟩
          replace hB0 := hB0.trans (hb_.mono hB0.size)
          clear hb_
          go_wp2_with fail
          go_ret2
          exact ⟨A4, c4, rfl, i4_n, i4_m.1, i4, hB0⟩
end Go.Proofs.YtldmbneckcjonaaDoor
namespace Go.Proofs.YtldmbneckcjonaaDoor
open Go.RowKit
set_option maxRecDepth 100000 in
set_option maxHeartbeats 400000 in
theorem rcut_low (A : Option Addr) (ca a : Nat) (K nK : Int) (k m : Nat) (ng : Bool) (w : World) (hA : IsL w A (nd a) a) (hK : K ≤ 0) (hn : wrap64 (-K) = nK) (hk : nK = (k : Int)) (mk : Mod (a * 2 ^ k)) :
    Calls Tryd.prog 110 #[.slice A (nd a) ca, .int .i64 K, .bool ng, .int .i64 m] w (DownOut (a * 2 ^ k) false w) := by
  have hB0 := Below.refl w.heap.size w
  subst hk
  go_enter Tryd.func110, Tryd.ntmps110
  go_wp2_with fail
  refine (rup_any _ _ a k _ hA mk).mono ?_
  rintro e w1 ⟨A1, c1, rfl, i1_n, i1_m, i1, hb_⟩
  replace hB0 := hB0.trans (hb_.mono hB0.size)
  clear hb_
  go_wp2_with fail
  go_ret2
  exact ⟨A1, c1, rfl, i1_n, i1_m.1, i1, hB0⟩
theorem rcut_any (A : Option Addr) (ca a : Nat) (K : Int) (m : Nat) (ng : Bool) (w : World) (hA : IsL w A (nd a) a) (hm : m < 5) (sa : Sm a) (hK1 : -100000 ≤ K) (hK2 : K ≤ 100000) :
    Calls Tryd.prog 110 #[.slice A (nd a) ca, .int .i64 K, .bool ng, .int .i64 m] w (DownOut (cutF m ng a K) (cutB a K) w) := by
  unfold cutF cutB
  by_cases hK : K ≤ 0
  · rw [if_pos hK, if_pos hK]
    have mk : Mod (a * 2 ^ (-K).toNat) := by have := bl_mul_le a (2 ^ (-K).toNat); have := bl_pow (-K).toNat; unfold Sm at sa; unfold Mod; omega
    exact rcut_low A ca a K (-K) _ m ng w hA hK (by unfold wrap64; omega) (by omega) mk
  · rw [if_neg hK, if_neg hK]
    obtain ⟨k, rfl⟩ : ∃ k : Nat, K = k := ⟨K.toNat, by omega⟩
    rw [Int.toNat_natCast]
    have hkp : 0 < k := by omega
    have hq : a / 2 ^ k ≤ a := Nat.div_le_self _ _
    have mQ := (sa.le hq).mod
    have mQ1 : Mod (a / 2 ^ k + 1) := by have := bl_add_le (a / 2 ^ k) 1; have : bl 1 ≤ 1 := bl_le.2 (by omega); have := sa.le hq; unfold Sm at this; unfold Mod; omega
    have C1 : Hid (∀ W, Below w.heap.size w W → Calls Tryd.prog 112 #[.slice A (nd a) ca, .int .i64 (k : Int)] W (DownOut (a / 2 ^ k) (decide (a % 2 ^ k = 0)) W)) := fun W hW => rdown_any A ca a k W (hA.below (Nat.le_refl _) hW) sa.mod (by omega)
    have C2 : Hid (∀ W, Below w.heap.size w W → Calls Tryd.prog 112 #[.slice A (nd a) ca, .int .i64 ((k - 1 : Nat) : Int)] W (DownOut (a / 2 ^ (k - 1)) (decide (a % 2 ^ (k - 1) = 0)) W)) := fun W hW => rdown_any A ca a (k - 1) W (hA.below (Nat.le_refl _) hW) sa.mod (by omega)
    have hbn : (!decide (a % 2 ^ (k - 1) = 0)) = belowB a k := by unfold belowB; by_cases h : a % 2 ^ (k - 1) = 0 <;> simp [h]
    have hwh := whole_half (n := a) hkp
    have := rcut_core A ca a k ((k - 1 : Nat) : Int) m (a / 2 ^ k) (a / 2 ^ (k - 1)) _ ng (halfB a k) (decide (a / 2 ^ k % 2 = 1)) (decide (a % 2 ^ (k - 1) = 0)) (decide (a % 2 ^ k = 0)) w hK (by unfold wrap64; omega) hm mQ mQ1 C1 C2 rfl rfl hwh rfl
    rw [hbn] at this
    rw [hwh, Bool.not_and, Bool.not_not, hbn] at this
    exact this
set_option maxRecDepth 100000 in
set_option maxHeartbeats 400000 in
theorem rsign_any (ng : Bool) (w : World) : Calls Tryd.prog 93 #[.bool ng] w fun e w' => e = .returned (.int .u64 (signN ng)) ∧ w = w' := by
  cases ng
  · go_enter Tryd.func93, Tryd.ntmps93
    go_wp2
    go_ret
    exact ⟨rfl, rfl⟩
  · go_enter Tryd.func93, Tryd.ntmps93
    go_wp2
    go_ret
    exact ⟨rfl, rfl⟩
set_option maxRecDepth 100000 in
set_option maxHeartbeats 400000 in
theorem rsmall_any (A : Option Addr) (ca n : Nat) (w : World) (hA : IsL w A (nd n) n) (hn : n < 4611686018427387904) :
    Calls Tryd.prog 111 #[.slice A (nd n) ca] w fun e w' => e = .returned (.int .i64 n) ∧ w = w' := by
  have hl : nd n ≤ 3 := I63.nd (by unfold I63; omega)
  have hN := Lib.hid hn
  clear hn
  go_enter Tryd.func111, Tryd.ntmps111
  go_wp2
  go_loop [3, 4] (fun t i => ∃ j : Nat, i = .int .i64 ((j : Int) - 1) ∧ j ≤ nd n ∧ t = .int .i64 ((n / BB ^ j : Nat) : Int)) (fun _ i => (intOf i + 1).toNat)
  case atStart => exact ⟨nd n, rfl, Nat.le_refl _, by rw [Nat.div_eq_of_lt (lt_pow_nd n)]; rfl⟩
  case round =>
    obtain ⟨j, rfl, hj, rfl⟩ := hrel
    rcases Nat.eq_zero_or_pos j with rfl | hp
    · rw [Nat.pow_zero, Nat.div_one]
      go_wp2
      go_ret
      exact ⟨rfl, rfl⟩
    · obtain ⟨i, rfl⟩ : ∃ i, j = i + 1 := ⟨j - 1, by omega⟩
      obtain ⟨ad, rfl, hc⟩ := hA.at_ (i := i) (by omega)
      have hs := div_split n i
      have h1 := Nat.div_le_self n (BB ^ i)
      have h3 := hN.out
      rw [show ((i + 1 : Nat) : Int) - 1 = i from by omega]
      have rel : ∃ j : Nat, Value.int .i64 ((i : Int) - 1) = .int .i64 ((j : Int) - 1) ∧ j ≤ nd n ∧ Value.int .i64 ((n / BB ^ i : Nat) : Int) = .int .i64 ((n / BB ^ j : Nat) : Int) := ⟨i, rfl, by omega, rfl⟩
      replace rel := Lib.hid rel
      generalize n / BB ^ (i + 1) = T at *
      generalize dg n i = d at *
      generalize n / BB ^ i = T1 at *
      rw [BB_eq] at hs
      have e1 : (16777216 : Int) * T + d = T1 := by omega
      have e2 : (16777216 : Int) * T ≤ 4611686018427387904 := by omega
      have e3 : (0 : Int) ≤ 16777216 * T := by omega
      have e4 : (d : Int) ≤ 4611686018427387904 := by omega
      have e5 : (T1 : Int) ≤ 4611686018427387904 := by omega
      clear h1 h3 hs
      go_wp2
      go_round
      case rel => exact rel.out
      case measure => simp [intOf]
set_option maxRecDepth 100000 in
set_option maxHeartbeats 1000000 in
theorem rexact_p (x : Nat) (hx : U64 x) (s e f n E : Int) (N : Nat) (ng : Bool) (w : World) (hsgn : sgnI x = s) (hexp : expI x = e) (hfr : fracI x = f) (hng : (s == 1) = ng)
    (hcase : (e = 0 ∧ f = N ∧ E = -1074) ∨ ((e == 0) = false ∧ f + 4503599627370496 = N ∧ wrap64 (f + 4503599627370496) = N ∧ wrap64 (e - 1075) = E)) (hN : I63 N) :
    Calls Tryd.prog 64 #[.int .u64 x] w (NumOut ng N E w) := by
  have C := parts_any x hx
  rw [hsgn, hexp, hfr] at C
  replace C := Lib.hid C
  clear hsgn hexp hfr
  have hB0 := Below.refl w.heap.size w
  rcases hcase with ⟨rfl, rfl, rfl⟩ | ⟨he, hf1, hf2, hE⟩
  · go_enter Tryd.func64, Tryd.ntmps64
    go_wp2_with fail
    refine (C.out _).mono ?_
    rintro e w1 ⟨rfl, rfl⟩
    go_wp2_with fail
    refine (rnat_any N _ hN).mono ?_
    rintro e w1 ⟨A, c, rfl, n1, n2, i1, hb1⟩
    obtain ⟨hc_, hf_⟩ := bcell1 hb1
    go_wp2_with fail
    refine bodyPost_ret (v := NumV ng A N c (-1074)) ?_ rfl ⟨A, c, rfl, n1, ⟨n2.1, n2.2.mono (by simp)⟩, ?_, ?_⟩
    · simp [results, Tryd.results64, go_sem, *]
    · have hF : Fr (w.heap.size + 1) A := n2.2.mono (by simp)
      exact ((i1.setCell hF (p := ⟨_, _, _⟩) (by simp) _).setCell hF (p := ⟨_, _, _⟩) (by simp) _).setCell hF (p := ⟨_, _, _⟩) (by simp) _
    repeat' (first | with_reducible exact Below.refl _ _ | with_reducible assumption | with_reducible refine Below.drew ?_ | with_reducible refine bdrewN ?_ _ | with_reducible refine Below.alloc ?_ ?_ _ | with_reducible refine Below.setCell ?_ ?_ _ | with_reducible refine Below.trans ?_ (Below.mono (by assumption) ?_) | omega | (simp; done) | (simp; omega))
  · replace hf1 := Lib.hid hf1
    go_enter Tryd.func64, Tryd.ntmps64
    go_wp2_with fail
    refine (C.out _).mono ?_
    rintro e w1 ⟨rfl, rfl⟩
    go_wp2_with fail
    refine (rnat_any N _ hN).mono ?_
    rintro e w1 ⟨A, c, rfl, n1, n2, i1, hb1⟩
    obtain ⟨hc_, hf_⟩ := bcell1 hb1
    go_wp2_with fail
    refine bodyPost_ret (v := NumV ng A N c E) ?_ rfl ⟨A, c, rfl, n1, ⟨n2.1, n2.2.mono (by simp)⟩, ?_, ?_⟩
    · simp [results, Tryd.results64, go_sem, *]
    · have hF : Fr (w.heap.size + 1) A := n2.2.mono (by simp)
      exact ((i1.setCell hF (p := ⟨_, _, _⟩) (by simp) _).setCell hF (p := ⟨_, _, _⟩) (by simp) _).setCell hF (p := ⟨_, _, _⟩) (by simp) _
    repeat' (first | with_reducible exact Below.refl _ _ | with_reducible assumption | with_reducible refine Below.drew ?_ | with_reducible refine bdrewN ?_ _ | with_reducible refine Below.alloc ?_ ?_ _ | with_reducible refine Below.setCell ?_ ?_ _ | with_reducible refine Below.trans ?_ (Below.mono (by assumption) ?_) | omega | (simp; done) | (simp; omega))
theorem rexact_any (x : Nat) (hx : U64 x) (w : World) : Calls Tryd.prog 64 #[.int .u64 x] w (NumOut (negU x) (exN x) (exE x) w) := by
  have hxo := hx.out
  have hl := exN_lt x
  have hf := sigF_lt x
  have hng : (sgnI x == 1) = negU x := by
    unfold negU sgnI; by_cases h : x / 9223372036854775808 = 1
    · rw [decide_eq_true h, beq_iff_eq]; omega
    · rw [decide_eq_false h, beq_eq_false_iff_ne]; omega
  refine rexact_p x hx _ _ _ 0 (exE x) (exN x) _ w rfl rfl rfl hng ?_ (by unfold I63; omega)
  have e1 : fracI x = sigF x := by unfold fracI sigF; omega
  have e2 : expI x = expF x := by unfold expI expF; omega
  rw [e1, e2]
  unfold exN exE
  by_cases h : expF x = 0
  · rw [if_pos h, if_pos h]; left; exact ⟨by omega, rfl, rfl⟩
  · rw [if_neg h, if_neg h]; right
    refine ⟨by rw [beq_eq_false_iff_ne]; omega, by omega, by unfold wrap64; omega, ?_⟩
    have : expF x < 2048 := by unfold expF; omega
    unfold wrap64; omega
set_option maxRecDepth 100000 in
set_option maxHeartbeats 1000000 in
theorem rmarked_any (ng wh : Bool) (A : Option Addr) (ca q : Nat) (e E : Int) (w : World) (hA : IsL w A (nd q) q) (mq : Mod (q * 2 + 1)) (hE : wrap64 (e - 1) = E) :
    Calls Tryd.prog 99 #[.bool ng, .slice A (nd q) ca, .int .i64 e, .bool wh] w (NumOut ng (mk2 q wh) E w) := by
  unfold mk2
  have m2 : Mod (q * 2) := mq.le (by omega)
  have hA1 : IsL (w.alloc (.cells #[.bool false, .slice none 0 0, .int .i64 0] 119)) A (nd q) q := hA.below (Nat.le_refl _) ((Below.refl _ w).alloc (by simp) _)
  have hBW := Below.refl (w.alloc (.cells #[.bool false, .slice none 0 0, .int .i64 0] 119)).heap.size (w.alloc (.cells #[.bool false, .slice none 0 0, .int .i64 0] 119))
  have hB0 := (Below.refl w.heap.size w).alloc (Nat.le_refl _) (.cells #[.bool false, .slice none 0 0, .int .i64 0] 119)
  cases wh
  · rw [if_neg (by decide)]
    go_enter Tryd.func99, Tryd.ntmps99
    go_wp2_with fail
    refine (rup1_any A ca q _ hA1 m2).mono ?_
    rintro e w1 ⟨A1, c1, rfl, i1_n, i1_m, i1, hb_⟩
    replace hBW := hBW.trans (hb_.mono hBW.size)
    clear hb_
    go_wp2_with fail
    refine (rnat1_any _).mono ?_
    rintro e w2 ⟨A2, c2, rfl, i2_n, i2_m, i2, hb_⟩
    replace i1 := i1.below (Nat.le_refl _) hb_
    replace hBW := hBW.trans (hb_.mono hBW.size)
    clear hb_
    go_wp2_with fail
    refine (rplus_any _ _ _ _ (q * 2) 1 _ i1 i2 m2 m1 mq).mono ?_
    rintro e w3 ⟨A3, c3, rfl, n1, n2, i3, hb_⟩
    have hs2 := hBW.size
    replace hBW := hBW.trans (hb_.mono hBW.size)
    clear hb_
    have hk_w3_0_0 : w3.cell? ⟨w.heap.size, 0, none⟩ = some (.bool false) := (by rw [hBW.cell (p := ⟨w.heap.size, 0, none⟩) (by first | omega | (simp; done) | (simp; omega))]; go_simp; done)
    have hg_w3_0_0 : w3.frozen? ⟨w.heap.size, 0, none⟩ = false := (by rw [hBW.frozen (p := ⟨w.heap.size, 0, none⟩) (by first | omega | (simp; done) | (simp; omega))]; go_simp; done)
    have hk_w3_0_1 : w3.cell? ⟨w.heap.size, 1, none⟩ = some (.slice none 0 0) := (by rw [hBW.cell (p := ⟨w.heap.size, 1, none⟩) (by first | omega | (simp; done) | (simp; omega))]; go_simp; done)
    have hg_w3_0_1 : w3.frozen? ⟨w.heap.size, 1, none⟩ = false := (by rw [hBW.frozen (p := ⟨w.heap.size, 1, none⟩) (by first | omega | (simp; done) | (simp; omega))]; go_simp; done)
    have hk_w3_0_2 : w3.cell? ⟨w.heap.size, 2, none⟩ = some (.int .i64 0) := (by rw [hBW.cell (p := ⟨w.heap.size, 2, none⟩) (by first | omega | (simp; done) | (simp; omega))]; go_simp; done)
    have hg_w3_0_2 : w3.frozen? ⟨w.heap.size, 2, none⟩ = false := (by rw [hBW.frozen (p := ⟨w.heap.size, 2, none⟩) (by first | omega | (simp; done) | (simp; omega))]; go_simp; done)
    go_wp2_with fail
    refine bodyPost_ret (v := NumV ng A3 (q * 2 + 1) c3 E) ?_ rfl ⟨A3, c3, rfl, n1, ⟨n2.1, n2.2.mono (by first | (simp; done) | (simp at hs2; omega))⟩, ?_, ?_⟩
    · simp [results, Tryd.results99, go_sem, *]
    · have hF : Fr (w.heap.size + 1) A3 := n2.2.mono (by first | (simp; done) | (simp at hs2; omega))
      exact ((i3.setCell hF (p := ⟨_, _, _⟩) (by simp) _).setCell hF (p := ⟨_, _, _⟩) (by simp) _).setCell hF (p := ⟨_, _, _⟩) (by simp) _
    · exact (((hB0.trans (hBW.mono (by simp))).setCell (Nat.le_refl _) _).setCell (Nat.le_refl _) _).setCell (Nat.le_refl _) _
  · rw [if_pos rfl, Nat.add_zero]
    go_enter Tryd.func99, Tryd.ntmps99
    go_wp2_with fail
    refine (rup1_any A ca q _ hA1 m2).mono ?_
    rintro e w3 ⟨A3, c3, rfl, n1, n2, i3, hb_⟩
    have hs2 := hBW.size
    replace hBW := hBW.trans (hb_.mono hBW.size)
    clear hb_
    have hk_w3_0_0 : w3.cell? ⟨w.heap.size, 0, none⟩ = some (.bool false) := (by rw [hBW.cell (p := ⟨w.heap.size, 0, none⟩) (by first | omega | (simp; done) | (simp; omega))]; go_simp; done)
    have hg_w3_0_0 : w3.frozen? ⟨w.heap.size, 0, none⟩ = false := (by rw [hBW.frozen (p := ⟨w.heap.size, 0, none⟩) (by first | omega | (simp; done) | (simp; omega))]; go_simp; done)
    have hk_w3_0_1 : w3.cell? ⟨w.heap.size, 1, none⟩ = some (.slice none 0 0) := (by rw [hBW.cell (p := ⟨w.heap.size, 1, none⟩) (by first | omega | (simp; done) | (simp; omega))]; go_simp; done)
    have hg_w3_0_1 : w3.frozen? ⟨w.heap.size, 1, none⟩ = false := (by rw [hBW.frozen (p := ⟨w.heap.size, 1, none⟩) (by first | omega | (simp; done) | (simp; omega))]; go_simp; done)
    have hk_w3_0_2 : w3.cell? ⟨w.heap.size, 2, none⟩ = some (.int .i64 0) := (by rw [hBW.cell (p := ⟨w.heap.size, 2, none⟩) (by first | omega | (simp; done) | (simp; omega))]; go_simp; done)
    have hg_w3_0_2 : w3.frozen? ⟨w.heap.size, 2, none⟩ = false := (by rw [hBW.frozen (p := ⟨w.heap.size, 2, none⟩) (by first | omega | (simp; done) | (simp; omega))]; go_simp; done)
    go_wp2_with fail
    refine bodyPost_ret (v := NumV ng A3 (q * 2) c3 E) ?_ rfl ⟨A3, c3, rfl, n1, ⟨n2.1, n2.2.mono (by first | (simp; done) | (simp at hs2; omega))⟩, ?_, ?_⟩
    · simp [results, Tryd.results99, go_sem, *]
    · have hF : Fr (w.heap.size + 1) A3 := n2.2.mono (by first | (simp; done) | (simp at hs2; omega))
      exact ((i3.setCell hF (p := ⟨_, _, _⟩) (by simp) _).setCell hF (p := ⟨_, _, _⟩) (by simp) _).setCell hF (p := ⟨_, _, _⟩) (by simp) _
    · exact (((hB0.trans (hBW.mono (by simp))).setCell (Nat.le_refl _) _).setCell (Nat.le_refl _) _).setCell (Nat.le_refl _) _
end Go.Proofs.YtldmbneckcjonaaDoor
namespace Go.Proofs.YtldmbneckcjonaaDoor
open Go.RowKit
theorem struct_kept {w : World} {A : Option Addr} {k n B g : Nat} (h : IsL w A k n) (hF : Fr B A) (hg : g < B) (v0 v1 v2 : Value) : IsL (((w.setCell ⟨g, 0, none⟩ v0).setCell ⟨g, 1, none⟩ v1).setCell ⟨g, 2, none⟩ v2) A k n :=
  ((h.setCell hF (p := ⟨_, _, _⟩) hg _).setCell hF (p := ⟨_, _, _⟩) hg _).setCell hF (p := ⟨_, _, _⟩) hg _
theorem struct_below {W w : World} {B g : Nat} (h : Below B W w) (hg : B ≤ g) (v0 v1 v2 : Value) : Below B W (((w.setCell ⟨g, 0, none⟩ v0).setCell ⟨g, 1, none⟩ v1).setCell ⟨g, 2, none⟩ v2) :=
  ((h.setCell (p := ⟨_, _, _⟩) hg _).setCell (p := ⟨_, _, _⟩) hg _).setCell (p := ⟨_, _, _⟩) hg _
theorem mk2_mod {q : Nat} (h : Sm q) : Mod (q * 2 + 1) := by
  have := bl_mul_le q 2; have := bl_add_le (q * 2) 1; have := bl_pow 1; rw [Nat.pow_one] at this; have : bl 1 ≤ 1 := bl_le.2 (by omega); unfold Sm at h; unfold Mod; omega
set_option maxRecDepth 100000 in
set_option maxHeartbeats 1000000 in
theorem rquotient_any (n1 n2 : Bool) (A B : Option Addr) (ca cb a b : Nat) (e1 e2 E1 E2 E : Int) (w : World) (hA : IsL w A (nd a) a) (hB : IsL w B (nd b) b) (sa : Sm (a * 2 ^ 120)) (sb : Sm b) (hb0 : 0 < b)
    (hE1 : wrap64 (e1 - 120) = E1) (hE2 : wrap64 (E1 - e2) = E2) (hE : wrap64 (E2 - 1) = E) :
    Calls Tryd.prog 67 #[NumV n1 A a ca e1, NumV n2 B b cb e2] w (NumOut (n1 != n2) (mk2 (a * 2 ^ 120 / b) (decide (a * 2 ^ 120 % b = 0))) E w) := by
  have hq : Sm (a * 2 ^ 120 / b) := sa.le (Nat.div_le_self _ _)
  have mq := mk2_mod hq
  have C1 := Lib.hid (fun (W : World) (hW : IsL W A (nd a) a) => rup_any A ca a 120 W hW sa.mod)
  generalize a * 2 ^ 120 = a2 at *
  have hBW := Below.refl (((w.alloc (.cells #[.bool n1, .slice A (nd a) ca, .int .i64 e1] 119)).alloc (.cells #[.bool n2, .slice B (nd b) cb, .int .i64 e2] 119)).alloc (.cells #[.bool false, .slice none 0 0, .int .i64 0] 119)).heap.size (((w.alloc (.cells #[.bool n1, .slice A (nd a) ca, .int .i64 e1] 119)).alloc (.cells #[.bool n2, .slice B (nd b) cb, .int .i64 e2] 119)).alloc (.cells #[.bool false, .slice none 0 0, .int .i64 0] 119))
  have hB0 : Below w.heap.size w (((w.alloc (.cells #[.bool n1, .slice A (nd a) ca, .int .i64 e1] 119)).alloc (.cells #[.bool n2, .slice B (nd b) cb, .int .i64 e2] 119)).alloc (.cells #[.bool false, .slice none 0 0, .int .i64 0] 119)) := (((Below.refl _ w).alloc (by simp) _).alloc (by simp) _).alloc (by simp; omega) _
  replace hA := hA.below (Nat.le_refl _) hB0
  replace hB := hB.below (Nat.le_refl _) hB0
  go_enter Tryd.func67, Tryd.ntmps67
  go_wp2_with fail
  refine (C1.out _ hA).mono ?_
  rintro e w1 ⟨A1, c1, rfl, n1_, n2_, i1, hb_⟩
  replace hB := hB.below (Nat.le_refl _) hb_
  replace hBW := hBW.trans (hb_.mono hBW.size)
  clear hb_
  have hk_w1_0_0 : w1.cell? ⟨w.heap.size + 1, 0, none⟩ = some (.bool n2) := (by rw [hBW.cell (p := ⟨w.heap.size + 1, 0, none⟩) (by first | omega | (simp; done) | (simp; omega))]; go_simp; done)
  have hk_w1_0_1 : w1.cell? ⟨w.heap.size + 1, 1, none⟩ = some (.slice B (nd b) cb) := (by rw [hBW.cell (p := ⟨w.heap.size + 1, 1, none⟩) (by first | omega | (simp; done) | (simp; omega))]; go_simp; done)
  have hk_w1_0_2 : w1.cell? ⟨w.heap.size + 1, 2, none⟩ = some (.int .i64 e2) := (by rw [hBW.cell (p := ⟨w.heap.size + 1, 2, none⟩) (by first | omega | (simp; done) | (simp; omega))]; go_simp; done)
  go_wp2_with fail
  refine (rover_any _ _ _ _ a2 b _ i1 hB sa sb hb0).mono ?_
  rintro e w2 ⟨A2, c2, rfl, n3_, n4_, i2, hb_⟩
  replace hBW := hBW.trans (hb_.mono hBW.size)
  clear hb_ C1
  have hk_w2_0_0 : w2.cell? ⟨w.heap.size, 0, none⟩ = some (.bool n1) := (by rw [hBW.cell (p := ⟨w.heap.size, 0, none⟩) (by first | omega | (simp; done) | (simp; omega))]; go_simp; done)
  have hk_w2_0_1 : w2.cell? ⟨w.heap.size, 1, none⟩ = some (.slice A (nd a) ca) := (by rw [hBW.cell (p := ⟨w.heap.size, 1, none⟩) (by first | omega | (simp; done) | (simp; omega))]; go_simp; done)
  have hk_w2_0_2 : w2.cell? ⟨w.heap.size, 2, none⟩ = some (.int .i64 e1) := (by rw [hBW.cell (p := ⟨w.heap.size, 2, none⟩) (by first | omega | (simp; done) | (simp; omega))]; go_simp; done)
  have hk_w2_1_0 : w2.cell? ⟨w.heap.size + 1, 0, none⟩ = some (.bool n2) := (by rw [hBW.cell (p := ⟨w.heap.size + 1, 0, none⟩) (by first | omega | (simp; done) | (simp; omega))]; go_simp; done)
  have hk_w2_1_1 : w2.cell? ⟨w.heap.size + 1, 1, none⟩ = some (.slice B (nd b) cb) := (by rw [hBW.cell (p := ⟨w.heap.size + 1, 1, none⟩) (by first | omega | (simp; done) | (simp; omega))]; go_simp; done)
  have hk_w2_1_2 : w2.cell? ⟨w.heap.size + 1, 2, none⟩ = some (.int .i64 e2) := (by rw [hBW.cell (p := ⟨w.heap.size + 1, 2, none⟩) (by first | omega | (simp; done) | (simp; omega))]; go_simp; done)
  generalize a2 / b = q at *
  generalize decide (a2 % b = 0) = wh at *
  go_wp2_with fail
  refine (rmarked_any _ _ _ _ q _ E _ i2 mq hE).mono ?_
  rintro e w3 ⟨A3, c3, rfl, n5_, n6_, i3, hb_⟩
  have hs2 := hBW.size
  replace hBW := hBW.trans (hb_.mono hBW.size)
  have hF : Fr (w.heap.size + 3) A3 := n6_.2.mono (by simp at hs2; omega)
  clear hb_
  have hk_w3_0_0 : w3.cell? ⟨w.heap.size + 1 + 1, 0, none⟩ = some (.bool false) := (by rw [hBW.cell (p := ⟨w.heap.size + 1 + 1, 0, none⟩) (by first | omega | (simp; done) | (simp; omega))]; go_simp; done)
  have hg_w3_0_0 : w3.frozen? ⟨w.heap.size + 1 + 1, 0, none⟩ = false := (by rw [hBW.frozen (p := ⟨w.heap.size + 1 + 1, 0, none⟩) (by first | omega | (simp; done) | (simp; omega))]; go_simp; done)
  have hk_w3_0_1 : w3.cell? ⟨w.heap.size + 1 + 1, 1, none⟩ = some (.slice none 0 0) := (by rw [hBW.cell (p := ⟨w.heap.size + 1 + 1, 1, none⟩) (by first | omega | (simp; done) | (simp; omega))]; go_simp; done)
  have hg_w3_0_1 : w3.frozen? ⟨w.heap.size + 1 + 1, 1, none⟩ = false := (by rw [hBW.frozen (p := ⟨w.heap.size + 1 + 1, 1, none⟩) (by first | omega | (simp; done) | (simp; omega))]; go_simp; done)
  have hk_w3_0_2 : w3.cell? ⟨w.heap.size + 1 + 1, 2, none⟩ = some (.int .i64 0) := (by rw [hBW.cell (p := ⟨w.heap.size + 1 + 1, 2, none⟩) (by first | omega | (simp; done) | (simp; omega))]; go_simp; done)
  have hg_w3_0_2 : w3.frozen? ⟨w.heap.size + 1 + 1, 2, none⟩ = false := (by rw [hBW.frozen (p := ⟨w.heap.size + 1 + 1, 2, none⟩) (by first | omega | (simp; done) | (simp; omega))]; go_simp; done)
  go_wp2_with fail
  refine bodyPost_ret (v := NumV (n1 != n2) A3 (mk2 q wh) c3 E) ?_ rfl ⟨A3, c3, rfl, n5_, ⟨n6_.1, hF.mono (by omega)⟩, ?_, ?_⟩
  · simp [results, Tryd.results67, go_sem, *]
    cases n1 <;> cases n2 <;> rfl
  · exact struct_kept i3 hF (by omega) _ _ _
  · exact struct_below (hB0.trans (hBW.mono hB0.size)) (by omega) _ _ _
/-- A square root, one digit more behind it. -/
def SqOut (a : Nat) (ex : Bool) (E : Int) (w : World) (e : Ending) (w' : World) : Prop := ∃ X, (X * X ≤ a ∧ a < (X + 1) * (X + 1)) ∧ NumOut false (mk2 X (ex && decide (X * X = a))) E w e w'
set_option maxRecDepth 100000 in
set_option maxHeartbeats 1000000 in
theorem rsqrt_k (n1 : Bool) (A : Option Addr) (ca a k : Nat) (e1 E1 E : Int) (w : World) (hA : IsL w A (nd a) a) (sa : Sm (a * 2 ^ k))
    (hk : (k = 130 ∧ ((e1 - 130).tmod 2 != 0) = false ∧ wrap64 (e1 - 130) = e1 - 130 ∧ (e1 - 130).tdiv 2 = E1) ∨ (k = 131 ∧ ((e1 - 130).tmod 2 != 0) = true ∧ wrap64 (e1 - 130) = e1 - 130 ∧ wrap64 (e1 - 131) = e1 - 131 ∧ (e1 - 131).tdiv 2 = E1)) (hE0 : wrap64 E1 = E1) (hE : wrap64 (E1 - 1) = E) :
    Calls Tryd.prog 68 #[NumV n1 A a ca e1] w (SqOut (a * 2 ^ k) true E w) := by
  have C1 := Lib.hid (fun (W : World) (hW : IsL W A (nd a) a) => rup_any A ca a k W hW sa.mod)
  generalize a * 2 ^ k = a2 at *
  have hBW := Below.refl ((w.alloc (.cells #[.bool n1, .slice A (nd a) ca, .int .i64 e1] 119)).alloc (.cells #[.bool false, .slice none 0 0, .int .i64 0] 119)).heap.size ((w.alloc (.cells #[.bool n1, .slice A (nd a) ca, .int .i64 e1] 119)).alloc (.cells #[.bool false, .slice none 0 0, .int .i64 0] 119))
  have hB0 : Below w.heap.size w ((w.alloc (.cells #[.bool n1, .slice A (nd a) ca, .int .i64 e1] 119)).alloc (.cells #[.bool false, .slice none 0 0, .int .i64 0] 119)) := ((Below.refl _ w).alloc (by simp) _).alloc (by simp) _
  replace hA := hA.below (Nat.le_refl _) hB0
  rcases hk with ⟨rfl, hp, hw1, hd⟩ | ⟨rfl, hp, hw1, hw2, hd⟩
  all_goals
    go_enter Tryd.func68, Tryd.ntmps68
    go_wp2_with fail
    refine (C1.out _ hA).mono ?_
    rintro e w1 ⟨A1, c1, rfl, n1_, n2_, i1, hb_⟩
    replace hBW := hBW.trans (hb_.mono hBW.size)
    clear hb_
    go_wp2_with fail
    refine (rroot_any _ _ a2 _ i1 sa).mono ?_
    rintro e w2 ⟨X, A2, c2, hX, rfl, n3_, n4_, i2, hb_⟩
    replace hBW := hBW.trans (hb_.mono hBW.size)
    replace hX := Lib.hid hX
    have sX : Sm X := sa.le (Nat.le_trans (Nat.le_mul_self X) hX.out.1)
    have mq := mk2_mod sX
    clear hb_ C1
    have hk_w2_0_0 : w2.cell? ⟨w.heap.size, 0, none⟩ = some (.bool n1) := (by rw [hBW.cell (p := ⟨w.heap.size, 0, none⟩) (by first | omega | (simp; done) | (simp; omega))]; go_simp; done)
    have hk_w2_0_1 : w2.cell? ⟨w.heap.size, 1, none⟩ = some (.slice A (nd a) ca) := (by rw [hBW.cell (p := ⟨w.heap.size, 1, none⟩) (by first | omega | (simp; done) | (simp; omega))]; go_simp; done)
    have hk_w2_0_2 : w2.cell? ⟨w.heap.size, 2, none⟩ = some (.int .i64 e1) := (by rw [hBW.cell (p := ⟨w.heap.size, 2, none⟩) (by first | omega | (simp; done) | (simp; omega))]; go_simp; done)
    generalize hwh : decide (X * X = a2) = wh at *
    replace hwh := Lib.hid hwh
    go_wp2_with fail
    refine (rmarked_any _ _ _ _ X _ E _ i2 mq hE).mono ?_
    rintro e w3 ⟨A3, c3, rfl, n5_, n6_, i3, hb_⟩
    have hs2 := hBW.size
    replace hBW := hBW.trans (hb_.mono hBW.size)
    have hF : Fr (w.heap.size + 2) A3 := n6_.2.mono (by simp at hs2; omega)
    clear hb_
    have hk_w3_0_0 : w3.cell? ⟨w.heap.size + 1, 0, none⟩ = some (.bool false) := (by rw [hBW.cell (p := ⟨w.heap.size + 1, 0, none⟩) (by first | omega | (simp; done) | (simp; omega))]; go_simp; done)
    have hg_w3_0_0 : w3.frozen? ⟨w.heap.size + 1, 0, none⟩ = false := (by rw [hBW.frozen (p := ⟨w.heap.size + 1, 0, none⟩) (by first | omega | (simp; done) | (simp; omega))]; go_simp; done)
    have hk_w3_0_1 : w3.cell? ⟨w.heap.size + 1, 1, none⟩ = some (.slice none 0 0) := (by rw [hBW.cell (p := ⟨w.heap.size + 1, 1, none⟩) (by first | omega | (simp; done) | (simp; omega))]; go_simp; done)
    have hg_w3_0_1 : w3.frozen? ⟨w.heap.size + 1, 1, none⟩ = false := (by rw [hBW.frozen (p := ⟨w.heap.size + 1, 1, none⟩) (by first | omega | (simp; done) | (simp; omega))]; go_simp; done)
    have hk_w3_0_2 : w3.cell? ⟨w.heap.size + 1, 2, none⟩ = some (.int .i64 0) := (by rw [hBW.cell (p := ⟨w.heap.size + 1, 2, none⟩) (by first | omega | (simp; done) | (simp; omega))]; go_simp; done)
    have hg_w3_0_2 : w3.frozen? ⟨w.heap.size + 1, 2, none⟩ = false := (by rw [hBW.frozen (p := ⟨w.heap.size + 1, 2, none⟩) (by first | omega | (simp; done) | (simp; omega))]; go_simp; done)
    go_wp2_with fail
    refine bodyPost_ret (v := NumV false A3 (mk2 X wh) c3 E) ?_ rfl ⟨X, hX.out, ?_⟩
    · simp [results, Tryd.results68, go_sem, *]
    · rw [Bool.true_and, hwh.out]
      exact ⟨A3, c3, rfl, n5_, ⟨n6_.1, hF.mono (by omega)⟩, struct_kept i3 hF (by omega) _ _ _, struct_below (hB0.trans (hBW.mono hB0.size)) (by omega) _ _ _⟩
end Go.Proofs.YtldmbneckcjonaaDoor
namespace Go.Proofs.YtldmbneckcjonaaDoor
open Go.RowKit
set_option maxRecDepth 100000 in
set_option maxHeartbeats 1000000 in
theorem rrecip_k (n1 : Bool) (A : Option Addr) (ca a k K0 : Nat) (e1 E1 E : Int) (w : World) (hA : IsL w A (nd a) a) (sa : Sm a) (ha0 : 0 < a) (sk : Sm (2 ^ k)) (hK0 : 240 + (bl a : Int) = K0) (hKb : (K0 : Int) ≤ 100000) (hbl : bl a ≤ 100000)
    (hk : (k = K0 ∧ ((e1 + K0).tmod 2 != 0) = false ∧ wrap64 (e1 + K0) = e1 + K0 ∧ wrap64 (-(K0 : Int) - e1) = -(K0 : Int) - e1 ∧ (-(K0 : Int) - e1).tdiv 2 = E1) ∨ (k = K0 + 1 ∧ ((e1 + K0).tmod 2 != 0) = true ∧ wrap64 (e1 + K0) = e1 + K0 ∧ wrap64 (-((K0 : Int) + 1) - e1) = -((K0 : Int) + 1) - e1 ∧ (-((K0 : Int) + 1) - e1).tdiv 2 = E1)) (hE0 : wrap64 E1 = E1) (hE : wrap64 (E1 - 1) = E) :
    Calls Tryd.prog 71 #[NumV n1 A a ca e1] w (SqOut (2 ^ k / a) (decide (2 ^ k % a = 0)) E w) := by
  have C1 := Lib.hid (fun (W : World) (A' : Option Addr) (c' : Nat) (hW : IsL W A' (nd 1) 1) => rup_any A' c' 1 k W hW (by rw [Nat.one_mul]; exact sk.mod))
  rw [Nat.one_mul] at C1
  have S := Lib.hid (fun (W : World) (hW : IsL W A (nd a) a) => rsize_any A ca a W hW sa.mod)
  generalize hp2 : 2 ^ k = p at *
  replace hp2 := Lib.hid hp2
  have sd : Sm (p / a) := sk.le (Nat.div_le_self _ _)
  have hBW := Below.refl ((w.alloc (.cells #[.bool n1, .slice A (nd a) ca, .int .i64 e1] 119)).alloc (.cells #[.bool false, .slice none 0 0, .int .i64 0] 119)).heap.size ((w.alloc (.cells #[.bool n1, .slice A (nd a) ca, .int .i64 e1] 119)).alloc (.cells #[.bool false, .slice none 0 0, .int .i64 0] 119))
  have hB0 : Below w.heap.size w ((w.alloc (.cells #[.bool n1, .slice A (nd a) ca, .int .i64 e1] 119)).alloc (.cells #[.bool false, .slice none 0 0, .int .i64 0] 119)) := ((Below.refl _ w).alloc (by simp) _).alloc (by simp) _
  replace hA := hA.below (Nat.le_refl _) hB0
  rcases hk with ⟨rfl, hp, hw1, hw2, hd⟩ | ⟨rfl, hp, hw1, hw2, hd⟩
  all_goals
    go_enter Tryd.func71, Tryd.ntmps71
    go_wp2_with fail
    refine (S.out _ hA).mono ?_
    rintro e w0 ⟨rfl, rfl⟩
    go_wp2_with fail
    refine (rnat1_any _).mono ?_
    rintro e w0 ⟨A0, c0, rfl, n1_, n2_, i0, hb_⟩
    replace hA := hA.below (Nat.le_refl _) hb_
    replace hBW := hBW.trans (hb_.mono hBW.size)
    clear hb_
    have hk_w0_0_0 : w0.cell? ⟨w.heap.size, 0, none⟩ = some (.bool n1) := (by rw [hBW.cell (p := ⟨w.heap.size, 0, none⟩) (by first | omega | (simp; done) | (simp; omega))]; go_simp; done)
    have hk_w0_0_1 : w0.cell? ⟨w.heap.size, 1, none⟩ = some (.slice A (nd a) ca) := (by rw [hBW.cell (p := ⟨w.heap.size, 1, none⟩) (by first | omega | (simp; done) | (simp; omega))]; go_simp; done)
    have hk_w0_0_2 : w0.cell? ⟨w.heap.size, 2, none⟩ = some (.int .i64 e1) := (by rw [hBW.cell (p := ⟨w.heap.size, 2, none⟩) (by first | omega | (simp; done) | (simp; omega))]; go_simp; done)
    go_wp2_with fail
    refine (C1.out _ _ _ i0).mono ?_
    rintro e w1 ⟨A1, c1, rfl, n3_, n4_, i1, hb_⟩
    replace hA := hA.below (Nat.le_refl _) hb_
    replace hBW := hBW.trans (hb_.mono hBW.size)
    clear hb_
    have hk_w1_0_0 : w1.cell? ⟨w.heap.size, 0, none⟩ = some (.bool n1) := (by rw [hBW.cell (p := ⟨w.heap.size, 0, none⟩) (by first | omega | (simp; done) | (simp; omega))]; go_simp; done)
    have hk_w1_0_1 : w1.cell? ⟨w.heap.size, 1, none⟩ = some (.slice A (nd a) ca) := (by rw [hBW.cell (p := ⟨w.heap.size, 1, none⟩) (by first | omega | (simp; done) | (simp; omega))]; go_simp; done)
    have hk_w1_0_2 : w1.cell? ⟨w.heap.size, 2, none⟩ = some (.int .i64 e1) := (by rw [hBW.cell (p := ⟨w.heap.size, 2, none⟩) (by first | omega | (simp; done) | (simp; omega))]; go_simp; done)
    go_wp2_with fail
    refine (rover_any _ _ _ _ p a _ i1 hA sk sa ha0).mono ?_
    rintro e w2 ⟨A2, c2, rfl, n5_, n6_, i2, hb_⟩
    replace hBW := hBW.trans (hb_.mono hBW.size)
    clear hb_ C1 S
    have hk_w2_0_0 : w2.cell? ⟨w.heap.size, 0, none⟩ = some (.bool n1) := (by rw [hBW.cell (p := ⟨w.heap.size, 0, none⟩) (by first | omega | (simp; done) | (simp; omega))]; go_simp; done)
    have hk_w2_0_1 : w2.cell? ⟨w.heap.size, 1, none⟩ = some (.slice A (nd a) ca) := (by rw [hBW.cell (p := ⟨w.heap.size, 1, none⟩) (by first | omega | (simp; done) | (simp; omega))]; go_simp; done)
    have hk_w2_0_2 : w2.cell? ⟨w.heap.size, 2, none⟩ = some (.int .i64 e1) := (by rw [hBW.cell (p := ⟨w.heap.size, 2, none⟩) (by first | omega | (simp; done) | (simp; omega))]; go_simp; done)
    generalize decide (p % a = 0) = wh0 at *
    generalize p / a = dd at *
    go_wp2_with fail
    refine (rroot_any _ _ dd _ i2 sd).mono ?_
    rintro e w3 ⟨X, A3, c3, hX, rfl, n7_, n8_, i3, hb_⟩
    replace hBW := hBW.trans (hb_.mono hBW.size)
    replace hX := Lib.hid hX
    have sX : Sm X := sd.le (Nat.le_trans (Nat.le_mul_self X) hX.out.1)
    have mq := mk2_mod sX
    clear hb_
    have hk_w3_0_0 : w3.cell? ⟨w.heap.size, 0, none⟩ = some (.bool n1) := (by rw [hBW.cell (p := ⟨w.heap.size, 0, none⟩) (by first | omega | (simp; done) | (simp; omega))]; go_simp; done)
    have hk_w3_0_1 : w3.cell? ⟨w.heap.size, 1, none⟩ = some (.slice A (nd a) ca) := (by rw [hBW.cell (p := ⟨w.heap.size, 1, none⟩) (by first | omega | (simp; done) | (simp; omega))]; go_simp; done)
    have hk_w3_0_2 : w3.cell? ⟨w.heap.size, 2, none⟩ = some (.int .i64 e1) := (by rw [hBW.cell (p := ⟨w.heap.size, 2, none⟩) (by first | omega | (simp; done) | (simp; omega))]; go_simp; done)
    generalize hwh : decide (X * X = dd) = wh at *
    replace hwh := Lib.hid hwh
    cases wh0
    case false =>
      go_wp2_with fail
      refine (rmarked_any _ _ _ _ X _ E _ i3 mq hE).mono ?_
      rintro e w4 ⟨A4, c4, rfl, n9_, n10_, i4, hb_⟩
      have hs2 := hBW.size
      replace hBW := hBW.trans (hb_.mono hBW.size)
      have hF : Fr (w.heap.size + 2) A4 := n10_.2.mono (by simp at hs2; omega)
      clear hb_
      have hk_w4_0_0 : w4.cell? ⟨w.heap.size + 1, 0, none⟩ = some (.bool false) := (by rw [hBW.cell (p := ⟨w.heap.size + 1, 0, none⟩) (by first | omega | (simp; done) | (simp; omega))]; go_simp; done)
      have hg_w4_0_0 : w4.frozen? ⟨w.heap.size + 1, 0, none⟩ = false := (by rw [hBW.frozen (p := ⟨w.heap.size + 1, 0, none⟩) (by first | omega | (simp; done) | (simp; omega))]; go_simp; done)
      have hk_w4_0_1 : w4.cell? ⟨w.heap.size + 1, 1, none⟩ = some (.slice none 0 0) := (by rw [hBW.cell (p := ⟨w.heap.size + 1, 1, none⟩) (by first | omega | (simp; done) | (simp; omega))]; go_simp; done)
      have hg_w4_0_1 : w4.frozen? ⟨w.heap.size + 1, 1, none⟩ = false := (by rw [hBW.frozen (p := ⟨w.heap.size + 1, 1, none⟩) (by first | omega | (simp; done) | (simp; omega))]; go_simp; done)
      have hk_w4_0_2 : w4.cell? ⟨w.heap.size + 1, 2, none⟩ = some (.int .i64 0) := (by rw [hBW.cell (p := ⟨w.heap.size + 1, 2, none⟩) (by first | omega | (simp; done) | (simp; omega))]; go_simp; done)
      have hg_w4_0_2 : w4.frozen? ⟨w.heap.size + 1, 2, none⟩ = false := (by rw [hBW.frozen (p := ⟨w.heap.size + 1, 2, none⟩) (by first | omega | (simp; done) | (simp; omega))]; go_simp; done)
      go_wp2_with fail
      refine bodyPost_ret (v := NumV false A4 (mk2 X false) c4 E) ?_ rfl ⟨X, hX.out, ?_⟩
      · simp [results, Tryd.results71, go_sem, *]
      · rw [Bool.false_and]
        exact ⟨A4, c4, rfl, n9_, ⟨n10_.1, hF.mono (by omega)⟩, struct_kept i4 hF (by omega) _ _ _, struct_below (hB0.trans (hBW.mono hB0.size)) (by omega) _ _ _⟩
    case true =>
      go_wp2_with fail
      refine (rmarked_any _ _ _ _ X _ E _ i3 mq hE).mono ?_
      rintro e w4 ⟨A4, c4, rfl, n9_, n10_, i4, hb_⟩
      have hs2 := hBW.size
      replace hBW := hBW.trans (hb_.mono hBW.size)
      have hF : Fr (w.heap.size + 2) A4 := n10_.2.mono (by simp at hs2; omega)
      clear hb_
      have hk_w4_0_0 : w4.cell? ⟨w.heap.size + 1, 0, none⟩ = some (.bool false) := (by rw [hBW.cell (p := ⟨w.heap.size + 1, 0, none⟩) (by first | omega | (simp; done) | (simp; omega))]; go_simp; done)
      have hg_w4_0_0 : w4.frozen? ⟨w.heap.size + 1, 0, none⟩ = false := (by rw [hBW.frozen (p := ⟨w.heap.size + 1, 0, none⟩) (by first | omega | (simp; done) | (simp; omega))]; go_simp; done)
      have hk_w4_0_1 : w4.cell? ⟨w.heap.size + 1, 1, none⟩ = some (.slice none 0 0) := (by rw [hBW.cell (p := ⟨w.heap.size + 1, 1, none⟩) (by first | omega | (simp; done) | (simp; omega))]; go_simp; done)
      have hg_w4_0_1 : w4.frozen? ⟨w.heap.size + 1, 1, none⟩ = false := (by rw [hBW.frozen (p := ⟨w.heap.size + 1, 1, none⟩) (by first | omega | (simp; done) | (simp; omega))]; go_simp; done)
      have hk_w4_0_2 : w4.cell? ⟨w.heap.size + 1, 2, none⟩ = some (.int .i64 0) := (by rw [hBW.cell (p := ⟨w.heap.size + 1, 2, none⟩) (by first | omega | (simp; done) | (simp; omega))]; go_simp; done)
      have hg_w4_0_2 : w4.frozen? ⟨w.heap.size + 1, 2, none⟩ = false := (by rw [hBW.frozen (p := ⟨w.heap.size + 1, 2, none⟩) (by first | omega | (simp; done) | (simp; omega))]; go_simp; done)
      go_wp2_with fail
      refine bodyPost_ret (v := NumV false A4 (mk2 X wh) c4 E) ?_ rfl ⟨X, hX.out, ?_⟩
      · simp [results, Tryd.results71, go_sem, *]
      · rw [Bool.true_and, hwh.out]
        exact ⟨A4, c4, rfl, n9_, ⟨n10_.1, hF.mono (by omega)⟩, struct_kept i4 hF (by omega) _ _ _, struct_below (hB0.trans (hBW.mono hB0.size)) (by omega) _ _ _⟩
end Go.Proofs.YtldmbneckcjonaaDoor
namespace Go.Proofs.YtldmbneckcjonaaDoor
open Go.RowKit
/-- What holds in cubeRoot's rounds. -/
def CubeI (a j X : Nat) : Prop := X * (X * X) ≤ a ∧ a < (X + 2 ^ j) * ((X + 2 ^ j) * (X + 2 ^ j))
theorem cubeI_start (a : Nat) : CubeI a (bl a / 3 + 2) 0 := by
  refine ⟨by rw [Nat.zero_mul]; exact Nat.zero_le _, ?_⟩
  rw [Nat.zero_add, ← Nat.pow_add, ← Nat.pow_add]
  exact Nat.lt_of_lt_of_le (lt_two_bl a) (Nat.pow_le_pow_right (by decide) (by omega))
theorem le_cube (X : Nat) : X ≤ X * (X * X) := by
  rcases Nat.eq_zero_or_pos X with rfl | h
  · exact Nat.zero_le _
  · exact Nat.le_mul_of_pos_right X (Nat.mul_pos h h)
theorem cubeI_step {a i X : Nat} (h : CubeI a (i + 1) X) : ((X + 2 ^ i) * ((X + 2 ^ i) * (X + 2 ^ i)) ≤ a → CubeI a i (X + 2 ^ i)) ∧ (a < (X + 2 ^ i) * ((X + 2 ^ i) * (X + 2 ^ i)) → CubeI a i X) ∧ X ≤ a := by
  obtain ⟨h1, h2⟩ := h
  have e : X + 2 ^ (i + 1) = (X + 2 ^ i) + 2 ^ i := by rw [Nat.pow_succ]; omega
  rw [e] at h2
  exact ⟨fun h => ⟨h, h2⟩, fun h => ⟨h1, h⟩, Nat.le_trans (le_cube X) h1⟩
theorem cubeI_end {a X : Nat} (h : CubeI a 0 X) : X * (X * X) ≤ a ∧ a < (X + 1) * ((X + 1) * (X + 1)) := h
def CbOut (ng : Bool) (a : Nat) (E : Int) (w : World) (e : Ending) (w' : World) : Prop := ∃ X, (X * (X * X) ≤ a ∧ a < (X + 1) * ((X + 1) * (X + 1))) ∧ NumOut ng (mk2 X (decide (X * (X * X) = a))) E w e w'
theorem Sm.cb {a X i : Nat} (h : Sm a) (hX : X ≤ a) (hi : i < 51000) : Mod (2 ^ i) ∧ Mod (X + 2 ^ i) ∧ Mod (1 * 2 ^ i) ∧ Mod ((X + 2 ^ i) * (X + 2 ^ i)) ∧ Mod ((X + 2 ^ i) * ((X + 2 ^ i) * (X + 2 ^ i))) := by
  have h1 := h.le hX
  have h2 := bl_pow i
  have h3 := bl_add_le X (2 ^ i)
  have h4 := bl_mul_le (X + 2 ^ i) (X + 2 ^ i)
  have h5 := bl_mul_le (X + 2 ^ i) ((X + 2 ^ i) * (X + 2 ^ i))
  refine ⟨?_, ?_, ?_, ?_, ?_⟩ <;> (try rw [Nat.one_mul]) <;> unfold Sm at h1 <;> unfold Mod <;> omega
theorem Sm.cb0 {a X : Nat} (h : Sm a) (hX : X ≤ a) : Mod (X * X) ∧ Mod (X * (X * X)) := by
  have h1 := h.le hX
  have h4 := bl_mul_le X X
  have h5 := bl_mul_le X (X * X)
  refine ⟨?_, ?_⟩ <;> unfold Sm at h1 <;> unfold Mod <;> omega
set_option maxRecDepth 100000 in
set_option maxHeartbeats 2000000 in
theorem rcbrt_k (n1 : Bool) (A : Option Addr) (ca a kf : Nat) (e1 E1 E : Int) (w : World) (hA : IsL w A (nd a) a) (sa : Sm (a * 2 ^ kf)) (hk0 : 190 ≤ kf) (hk1 : kf ≤ 192)
    (hmod : Hid (∀ j : Nat, 190 ≤ j → j < kf → ((e1 - j).tmod 3 != 0) = true)) (hfin : ((e1 - kf).tmod 3 != 0) = false) (hw : Hid (∀ j : Nat, j ≤ 192 → wrap64 (e1 - j) = e1 - j)) (hd : (e1 - kf).tdiv 3 = E1) (hE0 : wrap64 E1 = E1) (hE : wrap64 (E1 - 1) = E) :
    Calls Tryd.prog 70 #[NumV n1 A a ca e1] w (CbOut n1 (a * 2 ^ kf) E w) := by
  have C1 := Lib.hid (fun (W : World) (hW : IsL W A (nd a) a) => rup_any A ca a kf W hW sa.mod)
  generalize a * 2 ^ kf = a2 at *
  have hBW := Below.refl ((w.alloc (.cells #[.bool n1, .slice A (nd a) ca, .int .i64 e1] 119)).alloc (.cells #[.bool false, .slice none 0 0, .int .i64 0] 119)).heap.size ((w.alloc (.cells #[.bool n1, .slice A (nd a) ca, .int .i64 e1] 119)).alloc (.cells #[.bool false, .slice none 0 0, .int .i64 0] 119))
  have hB0 : Below w.heap.size w ((w.alloc (.cells #[.bool n1, .slice A (nd a) ca, .int .i64 e1] 119)).alloc (.cells #[.bool false, .slice none 0 0, .int .i64 0] 119)) := ((Below.refl _ w).alloc (by simp) _).alloc (by simp) _
  replace hA := hA.below (Nat.le_refl _) hB0
  have hbl : bl a2 ≤ 100000 := sa
  go_enter Tryd.func70, Tryd.ntmps70
  go_wp2_with fail
  go_loop [3] (fun k => ∃ j : Nat, k = .int .i64 j ∧ 190 ≤ j ∧ j ≤ kf) (fun k => kf - (intOf k).toNat)
  case atStart => exact ⟨190, rfl, by omega, hk0⟩
  case round =>
    obtain ⟨j, rfl, hj0, hj1⟩ := hrel
    have hwj := hw.out j (by omega)
    by_cases hj : j < kf
    · have hm := hmod.out j hj0 hj
      clear hfin hd
      go_wp2_with fail
      go_round
      case rel => exact ⟨j + 1, rfl, by omega, by omega⟩
      case measure => simp [intOf]; omega
    · obtain rfl : j = kf := by omega
      clear hj hj1
      go_wp2_with fail
      refine (C1.out _ hA).mono ?_
      rintro e w1 ⟨A1, c1, rfl, n1_, n2_, i1, hb_⟩
      replace hBW := hBW.trans (hb_.mono hBW.size)
      clear hb_ C1 hA hmod
      go_wp2_with (go_at_call 104; refine (rsize_any _ _ _ _ i1 sa.mod).mono ?_; rintro e w' ⟨rfl, rfl⟩)
      go_loopw [5, 6] (fun x i wr => ∃ q X : Nat, i = .int .i64 ((q : Int) - 1) ∧ q ≤ 50002 ∧ Hid (CubeI a2 q X) ∧ Hid (SL wr x X) ∧ Below w1.heap.size w1 wr) (fun _ i _ => (intOf i + 1).toNat)
      case atStart => exact ⟨bl a2 / 3 + 2, 0, val_int (by omega), by omega, cubeI_start a2, SL.nil _, Below.refl _ _⟩
      case round =>
        obtain ⟨q, X, rfl, hq, hI, hx, hB1⟩ := hrel
        obtain ⟨Ax, cx, rfl, h1, h2, h3⟩ := hx.out
        clear hx
        rcases Nat.eq_zero_or_pos q with rfl | hp
        · have hX := cubeI_end hI.out
          clear hI
          have hXa : X ≤ a2 := Nat.le_trans (le_cube X) hX.1
          have sX := sa.le hXa
          obtain ⟨mXX, mXXX⟩ := sa.cb0 hXa
          have hX1 := hX.1
          replace hX := Lib.hid hX
          have mq := mk2_mod sX
          have mX := sX.mod
          clear hXa sX
          go_wp2_with fail
          refine (rtimes_any _ _ _ _ X X _ h3 h3 mX mX).mono ?_
          rintro e w2 ⟨A2, c2, rfl, i2_n, i2_m, i2, hb_⟩
          replace h3 := h3.below (Nat.le_refl _) hb_
          replace hB1 := hB1.trans (hb_.mono hB1.size)
          clear hb_
          generalize hs2 : X * X = s2 at *
          go_wp2_with fail
          refine (rtimes_any _ _ _ _ X s2 _ h3 i2 mX mXX).mono ?_
          rintro e w3 ⟨A3, c3, rfl, i3_n, i3_m, i3, hb_⟩
          replace h3 := h3.below (Nat.le_refl _) hb_
          replace hB1 := hB1.trans (hb_.mono hB1.size)
          clear hb_
          generalize hs3 : X * s2 = s3 at *
          replace hs2 := Lib.hid hs2
          replace hs3 := Lib.hid hs3
          obtain ⟨cv, hcv⟩ : ∃ cv, cmpI s3 a2 = cv := ⟨_, rfl⟩
          have hcb : ((cv : Int) == 0) = decide (s3 = a2) := by
            by_cases h : s3 = a2
            · rw [← hcv, ← cmpI_eq h, decide_eq_true h]; rfl
            · rw [← hcv, ← cmpI_lt (show s3 < a2 by omega), decide_eq_false h]; rfl
          replace hcv := Lib.hid hcv
          generalize hwh : decide (s3 = a2) = wh at *
          replace hwh := Lib.hid hwh
          clear hX1
          have i1' := i1.below (Nat.le_refl _) hB1
          replace hBW := hBW.trans (hB1.mono hBW.size)
          clear hB1 hfin hw
          have hk_w3_0_0 : w3.cell? ⟨w.heap.size, 0, none⟩ = some (.bool n1) := (by rw [hBW.cell (p := ⟨w.heap.size, 0, none⟩) (by first | omega | (simp; done) | (simp; omega))]; go_simp; done)
          have hk_w3_0_1 : w3.cell? ⟨w.heap.size, 1, none⟩ = some (.slice A (nd a) ca) := (by rw [hBW.cell (p := ⟨w.heap.size, 1, none⟩) (by first | omega | (simp; done) | (simp; omega))]; go_simp; done)
          have hk_w3_0_2 : w3.cell? ⟨w.heap.size, 2, none⟩ = some (.int .i64 e1) := (by rw [hBW.cell (p := ⟨w.heap.size, 2, none⟩) (by first | omega | (simp; done) | (simp; omega))]; go_simp; done)
          have hk_w3_1_0 : w3.cell? ⟨w.heap.size + 1, 0, none⟩ = some (.bool false) := (by rw [hBW.cell (p := ⟨w.heap.size + 1, 0, none⟩) (by first | omega | (simp; done) | (simp; omega))]; go_simp; done)
          have hg_w3_1_0 : w3.frozen? ⟨w.heap.size + 1, 0, none⟩ = false := (by rw [hBW.frozen (p := ⟨w.heap.size + 1, 0, none⟩) (by first | omega | (simp; done) | (simp; omega))]; go_simp; done)
          have hk_w3_1_1 : w3.cell? ⟨w.heap.size + 1, 1, none⟩ = some (.slice none 0 0) := (by rw [hBW.cell (p := ⟨w.heap.size + 1, 1, none⟩) (by first | omega | (simp; done) | (simp; omega))]; go_simp; done)
          have hg_w3_1_1 : w3.frozen? ⟨w.heap.size + 1, 1, none⟩ = false := (by rw [hBW.frozen (p := ⟨w.heap.size + 1, 1, none⟩) (by first | omega | (simp; done) | (simp; omega))]; go_simp; done)
          have hk_w3_1_2 : w3.cell? ⟨w.heap.size + 1, 2, none⟩ = some (.int .i64 0) := (by rw [hBW.cell (p := ⟨w.heap.size + 1, 2, none⟩) (by first | omega | (simp; done) | (simp; omega))]; go_simp; done)
          have hg_w3_1_2 : w3.frozen? ⟨w.heap.size + 1, 2, none⟩ = false := (by rw [hBW.frozen (p := ⟨w.heap.size + 1, 2, none⟩) (by first | omega | (simp; done) | (simp; omega))]; go_simp; done)
          have hsz : w.heap.size + 2 ≤ w3.heap.size := by have := hBW.size; simp at this; omega
          have hwj2 : IntKind.i64.wrap (e1 - j) = e1 - j := by rw [IntKind.wrap_i64]; simpa only [wrap64] using hwj
          have hE02 : IntKind.i64.wrap E1 = E1 := by rw [IntKind.wrap_i64]; simpa only [wrap64] using hE0
          go_upto_region 15 with (fail)
          go_region_held3 (fun w' => (w'.cell? ⟨w.heap.size, 0, none⟩ = some (.bool n1) ∧ w'.cell? ⟨w.heap.size, 2, none⟩ = some (.int .i64 e1)))
            (first
              | (refine ⟨?_, ?_⟩ <;> (go_simp; done))
              | exact hS5
              | exact hS4
              | go_keep)
            (first
              | (go_at_call 102; refine (rcmp_c _ _ _ _ s3 a2 cv _ ?_ ?_ mXXX sa.mod hcv.out).mono ?_; exact i3; exact i1'; rintro e w4 ⟨rfl, hb4⟩; have hS4 := And.intro (cell_below hb4 hk_w3_0_0) (cell_below hb4 hk_w3_0_2))
              | (go_at_call 99; refine (rmarked_any _ wh _ _ X _ E _ ?_ mq hE).mono ?_; refine IsL.below ?_ (Nat.le_refl _) hb4; exact h3; rintro e w5 ⟨A5, c5, rfl, n5_, n6_, i5, hb5⟩
                 have hS5 := And.intro (cell_below hb5 hS4.1) (cell_below hb5 hS4.2)
                 have hR0 := cell_below hb5 (cell_below hb4 hk_w3_1_0)
                 have hR1 := cell_below hb5 (cell_below hb4 hk_w3_1_1)
                 have hR2 := cell_below hb5 (cell_below hb4 hk_w3_1_2)
                 have hQ0 := frozen_below hb5 (cell_below hb4 hk_w3_1_0) (frozen_below hb4 hk_w3_1_0 hg_w3_1_0)
                 have hQ1 := frozen_below hb5 (cell_below hb4 hk_w3_1_1) (frozen_below hb4 hk_w3_1_1 hg_w3_1_1)
                 have hQ2 := frozen_below hb5 (cell_below hb4 hk_w3_1_2) (frozen_below hb4 hk_w3_1_2 hg_w3_1_2)))
          have hb45 : Below w3.heap.size w3 w5 := by
            have h4 : Below w3.heap.size w3 w4 := (Below.refl _ w3).drew.trans hb4
            first | exact h4.trans (hb5.mono h4.size) | exact h4.drew.trans (hb5.mono h4.size)
          replace hBW := hBW.trans (hb45.mono hBW.size)
          have hF : Fr (w.heap.size + 2) A5 := n6_.2.mono (Nat.le_trans hsz (by have := hb4.size; simp at this ⊢; omega))
          go_wp2_with fail
          refine bodyPost_ret (v := NumV n1 A5 (mk2 X wh) c5 E) ?_ rfl ⟨X, ?_, ?_⟩
          · simp [results, Tryd.results70, go_sem, *]
          · have h := hX.out
            rw [← hs3.out, ← hs2.out] at h
            exact h
          · rw [hs2.out, hs3.out, hwh.out]
            exact ⟨A5, c5, rfl, n5_, ⟨n6_.1, hF.mono (by omega)⟩, struct_kept i5 hF (by omega) _ _ _, struct_below (hB0.trans (hBW.mono hB0.size)) (by omega) _ _ _⟩
        · obtain ⟨i, rfl⟩ : ∃ i, q = i + 1 := ⟨q - 1, by omega⟩
          obtain ⟨s1, s2, hXa⟩ := cubeI_step hI.out
          obtain ⟨mi, my, mi1, myy, myyy⟩ := sa.cb hXa (i := i) (by omega)
          have mX := (sa.le hXa).mod
          clear hI hXa hw hfin
          rw [show ((i + 1 : Nat) : Int) - 1 = i from by omega]
          go_wp2_with fail
          refine (rnat1_any _).mono ?_
          rintro e w2 ⟨A2, c2, rfl, i2_n, i2_m, i2, hb_⟩
          replace h3 := h3.below (Nat.le_refl _) hb_
          replace hB1 := hB1.trans (hb_.mono hB1.size)
          clear hb_
          go_wp2_with fail
          refine (rup_any _ _ 1 i _ i2 mi1).mono ?_
          rintro e w3 ⟨A3, c3, rfl, i3_n, i3_m, i3, hb_⟩
          replace h3 := h3.below (Nat.le_refl _) hb_
          replace hB1 := hB1.trans (hb_.mono hB1.size)
          clear hb_
          rw [Nat.one_mul] at i3 i3_n ⊢
          generalize 2 ^ i = p at *
          go_wp2_with fail
          refine (rplus_any _ _ _ _ X p _ h3 i3 mX mi my).mono ?_
          rintro e w4 ⟨A4, c4, rfl, i4_n, i4_m, i4, hb_⟩
          replace h3 := h3.below (Nat.le_refl _) hb_
          replace hB1 := hB1.trans (hb_.mono hB1.size)
          clear hb_
          generalize X + p = y at *
          go_wp2_with fail
          refine (rtimes_any _ _ _ _ y y _ i4 i4 my my).mono ?_
          rintro e w5 ⟨A5, c5, rfl, i5_n, i5_m, i5, hb_⟩
          replace h3 := h3.below (Nat.le_refl _) hb_
          replace i4 := i4.below (Nat.le_refl _) hb_
          replace hB1 := hB1.trans (hb_.mono hB1.size)
          clear hb_
          generalize hs5 : y * y = y2 at *
          go_wp2_with fail
          refine (rtimes_any _ _ _ _ y y2 _ i4 i5 my myy).mono ?_
          rintro e w6 ⟨A6, c6, rfl, i6_n, i6_m, i6, hb_⟩
          replace h3 := h3.below (Nat.le_refl _) hb_
          replace i4 := i4.below (Nat.le_refl _) hb_
          replace hB1 := hB1.trans (hb_.mono hB1.size)
          clear hb_
          generalize hs6 : y * y2 = y3 at *
          replace hs5 := Lib.hid hs5
          replace hs6 := Lib.hid hs6
          by_cases hc : y3 ≤ a2
          · have hc0 : cmpI y3 a2 ≤ 0 := by unfold cmpI; split; omega; split <;> omega
            have hI' := s1 hc
            clear s1 s2
            generalize hc1 : cmpI y3 a2 = c at *
            replace hc1 := Lib.hid hc1
            go_wp2_with fail
            refine (rcmp_c _ _ _ _ y3 a2 c _ i6 (i1.below (Nat.le_refl _) hB1) myyy sa.mod hc1.out).mono ?_
            rintro e w7 ⟨rfl, hb_⟩
            replace h3 := h3.below (Nat.le_refl _) hb_
            replace i4 := i4.below (Nat.le_refl _) hb_
            replace hB1 := hB1.trans (hb_.mono hB1.size)
            clear hb_
            go_wp2_with fail
            go_roundw
            case rel => exact ⟨i, y, val_int rfl, by omega, hI', ⟨A4, c4, rfl, i4_n, i4_m.1, i4⟩, hB1⟩
            case measure => simp [intOf]
          · have hc1 := (cmpI_gt (show a2 < y3 by omega)).symm
            have hI' := s2 (by omega)
            clear s1 s2
            go_wp2_with fail
            refine (rcmp_c _ _ _ _ y3 a2 1 _ i6 (i1.below (Nat.le_refl _) hB1) myyy sa.mod hc1).mono ?_
            rintro e w7 ⟨rfl, hb_⟩
            replace h3 := h3.below (Nat.le_refl _) hb_
            replace i4 := i4.below (Nat.le_refl _) hb_
            replace hB1 := hB1.trans (hb_.mono hB1.size)
            clear hb_
            go_wp2_with fail
            go_roundw
            case rel => exact ⟨i, X, val_int rfl, by omega, hI', ⟨Ax, cx, rfl, h1, h2, h3⟩, hB1⟩
            case measure => simp [intOf]
end Go.Proofs.YtldmbneckcjonaaDoor
