/- Several texts in one: softfloatref.multiplication. · softfloatref.multiplication, whole; the law Products. -/
import Derived.Test.YtldmbneckcjonaaDoorGH
import Derived.Test.YtldmbneckcjonaaDoorGI
import Derived.Test.YtldmbneckcjonaaDoorGM
set_option linter.unusedVariables false
set_option linter.unusedSimpArgs false
namespace Go.Proofs.YtldmbneckcjonaaDoor
open Go.RowKit
set_option maxRecDepth 100000 in
set_option maxHeartbeats 1000000 in
theorem rmul_bad1 (m a b : Nat) (Ka : Hid (∀ W, Calls Tryd.prog 43 #[.int .u64 a] W fun e w' => e = .returned (.int .i64 3) ∧ W = w')) (Kb : Hid (∀ W, Calls Tryd.prog 43 #[.int .u64 b] W fun e w' => e = .returned (.int .i64 0) ∧ W = w')) (sg : Nat) (hx : bits .and .u64 (bits .xor .u64 (a : Int) (b : Int)) 9223372036854775808 = sg) (w : World) :
    Calls Tryd.prog 47 #[.int .u64 a, .int .u64 b, .int .i64 m] w (RefOutB 9221120237041090560 16 false w) := by
  go_enter Tryd.func47, Tryd.ntmps47
  go_wp2_with (first | (go_at_call_of 43 (Value.int IntKind.u64 a); refine (Ka.out _).mono ?_; rintro e w' ⟨rfl, rfl⟩) | (go_at_call_of 43 (Value.int IntKind.u64 b); refine (Kb.out _).mono ?_; rintro e w' ⟨rfl, rfl⟩))
  all_goals refine bodyPost_ret (v := RV 9221120237041090560 16 false) (by simp [results, Tryd.results47, go_sem, *]) rfl ⟨rfl, ?_⟩
  repeat' (first | with_reducible exact Below.refl _ _ | with_reducible assumption | with_reducible refine Below.drew ?_ | with_reducible refine bdrewN ?_ _ | with_reducible refine Below.alloc ?_ ?_ _ | with_reducible refine Below.setCell ?_ ?_ _ | with_reducible refine Below.trans ?_ (Below.mono (by assumption) ?_) | omega | (simp; done) | (simp; omega))
set_option maxRecDepth 100000 in
set_option maxHeartbeats 1000000 in
theorem rmul_bad2 (m a b : Nat) (Ka : Hid (∀ W, Calls Tryd.prog 43 #[.int .u64 a] W fun e w' => e = .returned (.int .i64 0) ∧ W = w')) (Kb : Hid (∀ W, Calls Tryd.prog 43 #[.int .u64 b] W fun e w' => e = .returned (.int .i64 3) ∧ W = w')) (sg : Nat) (hx : bits .and .u64 (bits .xor .u64 (a : Int) (b : Int)) 9223372036854775808 = sg) (w : World) :
    Calls Tryd.prog 47 #[.int .u64 a, .int .u64 b, .int .i64 m] w (RefOutB 9221120237041090560 16 false w) := by
  go_enter Tryd.func47, Tryd.ntmps47
  go_wp2_with (first | (go_at_call_of 43 (Value.int IntKind.u64 a); refine (Ka.out _).mono ?_; rintro e w' ⟨rfl, rfl⟩) | (go_at_call_of 43 (Value.int IntKind.u64 b); refine (Kb.out _).mono ?_; rintro e w' ⟨rfl, rfl⟩))
  all_goals refine bodyPost_ret (v := RV 9221120237041090560 16 false) (by simp [results, Tryd.results47, go_sem, *]) rfl ⟨rfl, ?_⟩
  repeat' (first | with_reducible exact Below.refl _ _ | with_reducible assumption | with_reducible refine Below.drew ?_ | with_reducible refine bdrewN ?_ _ | with_reducible refine Below.alloc ?_ ?_ _ | with_reducible refine Below.setCell ?_ ?_ _ | with_reducible refine Below.trans ?_ (Below.mono (by assumption) ?_) | omega | (simp; done) | (simp; omega))
set_option maxRecDepth 100000 in
set_option maxHeartbeats 1000000 in
theorem rmul_inf1 (m a b kb : Nat) (Ka : Hid (∀ W, Calls Tryd.prog 43 #[.int .u64 a] W fun e w' => e = .returned (.int .i64 3) ∧ W = w')) (Kb : Hid (∀ W, Calls Tryd.prog 43 #[.int .u64 b] W fun e w' => e = .returned (.int .i64 (kb : Int)) ∧ W = w')) (sg : Nat) (hx : bits .and .u64 (bits .xor .u64 (a : Int) (b : Int)) 9223372036854775808 = sg) (bi : Nat) (hi : IntKind.u64.wrap ((sg : Int) + 9218868437227405312) = bi) (hkb0 : ((kb : Int) == 0) = false) (w : World) :
    Calls Tryd.prog 47 #[.int .u64 a, .int .u64 b, .int .i64 m] w (RefOutB bi 0 false w) := by
  go_enter Tryd.func47, Tryd.ntmps47
  go_wp2_with (first | (go_at_call_of 43 (Value.int IntKind.u64 a); refine (Ka.out _).mono ?_; rintro e w' ⟨rfl, rfl⟩) | (go_at_call_of 43 (Value.int IntKind.u64 b); refine (Kb.out _).mono ?_; rintro e w' ⟨rfl, rfl⟩))
  all_goals refine bodyPost_ret (v := RV bi 0 false) (by simp [results, Tryd.results47, go_sem, *]) rfl ⟨rfl, ?_⟩
  repeat' (first | with_reducible exact Below.refl _ _ | with_reducible assumption | with_reducible refine Below.drew ?_ | with_reducible refine bdrewN ?_ _ | with_reducible refine Below.alloc ?_ ?_ _ | with_reducible refine Below.setCell ?_ ?_ _ | with_reducible refine Below.trans ?_ (Below.mono (by assumption) ?_) | omega | (simp; done) | (simp; omega))
set_option maxRecDepth 100000 in
set_option maxHeartbeats 1000000 in
theorem rmul_inf2 (m a b ka : Nat) (Ka : Hid (∀ W, Calls Tryd.prog 43 #[.int .u64 a] W fun e w' => e = .returned (.int .i64 (ka : Int)) ∧ W = w')) (Kb : Hid (∀ W, Calls Tryd.prog 43 #[.int .u64 b] W fun e w' => e = .returned (.int .i64 3) ∧ W = w')) (sg : Nat) (hx : bits .and .u64 (bits .xor .u64 (a : Int) (b : Int)) 9223372036854775808 = sg) (bi : Nat) (hi : IntKind.u64.wrap ((sg : Int) + 9218868437227405312) = bi) (hka0 : ((ka : Int) == 0) = false) (hka3 : ((ka : Int) == 3) = false) (w : World) :
    Calls Tryd.prog 47 #[.int .u64 a, .int .u64 b, .int .i64 m] w (RefOutB bi 0 false w) := by
  go_enter Tryd.func47, Tryd.ntmps47
  go_wp2_with (first | (go_at_call_of 43 (Value.int IntKind.u64 a); refine (Ka.out _).mono ?_; rintro e w' ⟨rfl, rfl⟩) | (go_at_call_of 43 (Value.int IntKind.u64 b); refine (Kb.out _).mono ?_; rintro e w' ⟨rfl, rfl⟩))
  all_goals refine bodyPost_ret (v := RV bi 0 false) (by simp [results, Tryd.results47, go_sem, *]) rfl ⟨rfl, ?_⟩
  repeat' (first | with_reducible exact Below.refl _ _ | with_reducible assumption | with_reducible refine Below.drew ?_ | with_reducible refine bdrewN ?_ _ | with_reducible refine Below.alloc ?_ ?_ _ | with_reducible refine Below.setCell ?_ ?_ _ | with_reducible refine Below.trans ?_ (Below.mono (by assumption) ?_) | omega | (simp; done) | (simp; omega))
set_option maxRecDepth 100000 in
set_option maxHeartbeats 1000000 in
theorem rmul_z1 (m a b kb : Nat) (Ka : Hid (∀ W, Calls Tryd.prog 43 #[.int .u64 a] W fun e w' => e = .returned (.int .i64 0) ∧ W = w')) (Kb : Hid (∀ W, Calls Tryd.prog 43 #[.int .u64 b] W fun e w' => e = .returned (.int .i64 (kb : Int)) ∧ W = w')) (sg : Nat) (hx : bits .and .u64 (bits .xor .u64 (a : Int) (b : Int)) 9223372036854775808 = sg) (hkb3 : ((kb : Int) == 3) = false) (w : World) :
    Calls Tryd.prog 47 #[.int .u64 a, .int .u64 b, .int .i64 m] w (RefOutB sg 0 false w) := by
  go_enter Tryd.func47, Tryd.ntmps47
  go_wp2_with (first | (go_at_call_of 43 (Value.int IntKind.u64 a); refine (Ka.out _).mono ?_; rintro e w' ⟨rfl, rfl⟩) | (go_at_call_of 43 (Value.int IntKind.u64 b); refine (Kb.out _).mono ?_; rintro e w' ⟨rfl, rfl⟩))
  all_goals refine bodyPost_ret (v := RV sg 0 false) (by simp [results, Tryd.results47, go_sem, *]) rfl ⟨rfl, ?_⟩
  repeat' (first | with_reducible exact Below.refl _ _ | with_reducible assumption | with_reducible refine Below.drew ?_ | with_reducible refine bdrewN ?_ _ | with_reducible refine Below.alloc ?_ ?_ _ | with_reducible refine Below.setCell ?_ ?_ _ | with_reducible refine Below.trans ?_ (Below.mono (by assumption) ?_) | omega | (simp; done) | (simp; omega))
set_option maxRecDepth 100000 in
set_option maxHeartbeats 1000000 in
theorem rmul_z2 (m a b ka : Nat) (Ka : Hid (∀ W, Calls Tryd.prog 43 #[.int .u64 a] W fun e w' => e = .returned (.int .i64 (ka : Int)) ∧ W = w')) (Kb : Hid (∀ W, Calls Tryd.prog 43 #[.int .u64 b] W fun e w' => e = .returned (.int .i64 0) ∧ W = w')) (sg : Nat) (hx : bits .and .u64 (bits .xor .u64 (a : Int) (b : Int)) 9223372036854775808 = sg) (hka3 : ((ka : Int) == 3) = false) (hka0 : ((ka : Int) == 0) = false) (w : World) :
    Calls Tryd.prog 47 #[.int .u64 a, .int .u64 b, .int .i64 m] w (RefOutB sg 0 false w) := by
  go_enter Tryd.func47, Tryd.ntmps47
  go_wp2_with (first | (go_at_call_of 43 (Value.int IntKind.u64 a); refine (Ka.out _).mono ?_; rintro e w' ⟨rfl, rfl⟩) | (go_at_call_of 43 (Value.int IntKind.u64 b); refine (Kb.out _).mono ?_; rintro e w' ⟨rfl, rfl⟩))
  all_goals refine bodyPost_ret (v := RV sg 0 false) (by simp [results, Tryd.results47, go_sem, *]) rfl ⟨rfl, ?_⟩
  repeat' (first | with_reducible exact Below.refl _ _ | with_reducible assumption | with_reducible refine Below.drew ?_ | with_reducible refine bdrewN ?_ _ | with_reducible refine Below.alloc ?_ ?_ _ | with_reducible refine Below.setCell ?_ ?_ _ | with_reducible refine Below.trans ?_ (Below.mono (by assumption) ?_) | omega | (simp; done) | (simp; omega))
set_option maxRecDepth 100000 in
set_option maxHeartbeats 1000000 in
theorem rmul_go (m a b ka kb : Nat) (Ka : Hid (∀ W, Calls Tryd.prog 43 #[.int .u64 a] W fun e w' => e = .returned (.int .i64 (ka : Int)) ∧ W = w')) (Kb : Hid (∀ W, Calls Tryd.prog 43 #[.int .u64 b] W fun e w' => e = .returned (.int .i64 (kb : Int)) ∧ W = w')) (sg : Nat) (hx : bits .and .u64 (bits .xor .u64 (a : Int) (b : Int)) 9223372036854775808 = sg) (na nb ng : Bool) (Na Nb N bt fl : Nat) (ea eb eg : Int) (Ea : Hid (∀ W, Calls Tryd.prog 64 #[.int .u64 a] W (NumOut na Na ea W))) (Eb : Hid (∀ W, Calls Tryd.prog 64 #[.int .u64 b] W (NumOut nb Nb eb W))) (P : Hid (∀ W A B ca cb, IsL W A (nd Na) Na → IsL W B (nd Nb) Nb → Calls Tryd.prog 66 #[NumV na A Na ca ea, NumV nb B Nb cb eb] W (NumOut ng N eg W))) (F : Hid (∀ W A c, IsL W A (nd N) N → Calls Tryd.prog 65 #[NumV ng A N c eg, .int .i64 m] W (RefOutB bt fl false W))) (hka0 : ((ka : Int) == 0) = false) (hka3 : ((ka : Int) == 3) = false) (hkb0 : ((kb : Int) == 0) = false) (hkb3 : ((kb : Int) == 3) = false) (w : World) :
    Calls Tryd.prog 47 #[.int .u64 a, .int .u64 b, .int .i64 m] w (RefOutB bt fl false w) := by
  go_enter Tryd.func47, Tryd.ntmps47
  go_wp2_with (first | (go_at_call_of 43 (Value.int IntKind.u64 a); refine (Ka.out _).mono ?_; rintro e w' ⟨rfl, rfl⟩) | (go_at_call_of 43 (Value.int IntKind.u64 b); refine (Kb.out _).mono ?_; rintro e w' ⟨rfl, rfl⟩))
  refine (Ea.out _).mono ?_
  rintro e w1 ⟨A1, c1, rfl, n1_, m1_, i1, hb1⟩
  go_wp2_with fail
  refine (Eb.out _).mono ?_
  rintro e w2 ⟨A2, c2, rfl, n2_, m2_, i2, hb2⟩
  replace i1 := i1.below (Nat.le_refl _) hb2
  go_wp2_with fail
  refine (P.out _ _ _ _ _ i1 i2).mono ?_
  rintro e w3 ⟨A3, c3, rfl, n3_, m3_, i3, hb3⟩
  clear i1 i2
  go_wp2_with fail
  refine (F.out _ _ _ i3).mono ?_
  rintro e w4 ⟨rfl, hb4⟩
  have hz1 := hb1.size
  simp at hz1
  have hz2 := hb2.size
  have hz3 := hb3.size
  have hBW := ((hb1.trans (hb2.mono hb1.size)).trans (hb3.mono (Nat.le_trans hb1.size hb2.size))).trans (hb4.mono (Nat.le_trans hb1.size (Nat.le_trans hb2.size hb3.size)))
  have hk_w4_0_0 : w4.cell? ⟨w.heap.size, 0, none⟩ = some (.int .u64 0) := (by rw [hBW.cell (p := ⟨w.heap.size, 0, none⟩) (by first | omega | (simp; done) | (simp; omega))]; go_simp; done)
  have hg_w4_0_0 : w4.frozen? ⟨w.heap.size, 0, none⟩ = false := (by rw [hBW.frozen (p := ⟨w.heap.size, 0, none⟩) (by first | omega | (simp; done) | (simp; omega))]; go_simp; done)
  have hk_w4_0_1 : w4.cell? ⟨w.heap.size, 1, none⟩ = some (.int .i64 0) := (by rw [hBW.cell (p := ⟨w.heap.size, 1, none⟩) (by first | omega | (simp; done) | (simp; omega))]; go_simp; done)
  have hg_w4_0_1 : w4.frozen? ⟨w.heap.size, 1, none⟩ = false := (by rw [hBW.frozen (p := ⟨w.heap.size, 1, none⟩) (by first | omega | (simp; done) | (simp; omega))]; go_simp; done)
  have hk_w4_0_2 : w4.cell? ⟨w.heap.size, 2, none⟩ = some (.bool false) := (by rw [hBW.cell (p := ⟨w.heap.size, 2, none⟩) (by first | omega | (simp; done) | (simp; omega))]; go_simp; done)
  have hg_w4_0_2 : w4.frozen? ⟨w.heap.size, 2, none⟩ = false := (by rw [hBW.frozen (p := ⟨w.heap.size, 2, none⟩) (by first | omega | (simp; done) | (simp; omega))]; go_simp; done)
  go_wp2_with fail
  all_goals refine bodyPost_ret (v := RV bt fl false) (by simp [results, Tryd.results47, go_sem, *]) rfl ⟨rfl, ?_⟩
  repeat' (first | with_reducible exact Below.refl _ _ | with_reducible assumption | with_reducible refine Below.drew ?_ | with_reducible refine bdrewN ?_ _ | with_reducible refine Below.alloc ?_ ?_ _ | with_reducible refine Below.setCell ?_ ?_ _ | with_reducible refine Below.trans ?_ (Below.mono (by assumption) ?_) | omega | (simp; done) | (simp; omega))
end Go.Proofs.YtldmbneckcjonaaDoor
namespace Go.Proofs.YtldmbneckcjonaaDoor
open Go.RowKit
theorem exN_mod (a : Nat) : Mod (exN a) := by have := exN_bl a; unfold Mod; omega
theorem finite_S {m n : Nat} {ng : Bool} {e : Int} (hn : n ≠ 0) (hm : m < 5) (hl : bl n ≤ 40000) (he1 : -40000 ≤ e) (he2 : e ≤ 40000) (W : World) (A : Option Addr) (c : Nat) (hA : IsL W A (nd n) n) :
    Calls Tryd.prog 65 #[NumV ng A n c e, .int .i64 m] W (RefOutB (roundS m ng n false e).1 (roundS m ng n false e).2 false W) := by
  rw [← roundR_eq]; exact rfinite_any ng A c n m e W hA hn hm hl he1 he2
theorem bl_mul53 (a b : Nat) : bl (exN a * exN b) ≤ 106 := by have := bl_mul_le (exN a) (exN b); have := exN_bl a; have := exN_bl b; omega
theorem wrap_sg {g : Bool} {x : Nat} (h : x < 9223372036854775808) : IntKind.u64.wrap ((signN g : Int) + (x : Int)) = ((signN g + x : Nat) : Int) := by
  cases g
  · have e : signN false = 0 := rfl
    rw [e, IntKind.wrap_u64]; omega
  · have e : signN true = 9223372036854775808 := rfl
    rw [e, IntKind.wrap_u64]; omega
theorem rmul_any (m a b : Nat) (hm : m < 5) (ua : U64 a) (ub : U64 b) (ka : kindN a < 4) (kb : kindN b < 4) (w : World) : Calls Tryd.prog 47 #[.int .u64 a, .int .u64 b, .int .i64 m] w (RefOutB (mulS m a b).1 (mulS m a b).2 false w) := by
  have Ka := Lib.hid (fun W => kind_any a ua W)
  have Kb := Lib.hid (fun W => kind_any b ub W)
  have hx := xor_sign ua ub
  have hor := wrap_sg (g := negU a != negU b) (x := 9218868437227405312) (by omega)
  have za := kind_zero (x := a)
  have zb := kind_zero (x := b)
  by_cases h1 : kindN a = 3 ∧ kindN b = 0
  · have e : mulS m a b = (9221120237041090560, 16) := by unfold mulS; rw [if_pos (.inl h1)]
    rw [e]; rw [h1.1] at Ka; rw [h1.2] at Kb
    exact rmul_bad1 m a b Ka Kb _ hx w
  · by_cases h2 : kindN a = 0 ∧ kindN b = 3
    · have e : mulS m a b = (9221120237041090560, 16) := by unfold mulS; rw [if_pos (.inr h2)]
      rw [e]; rw [h2.1] at Ka; rw [h2.2] at Kb
      exact rmul_bad2 m a b Ka Kb _ hx w
    · have e0 : mulS m a b = if kindN a = 3 ∨ kindN b = 3 then (signN (negU a != negU b) + 9218868437227405312, 0)
          else if kindN a = 0 ∨ kindN b = 0 then (signN (negU a != negU b), 0)
          else roundS m (negU a != negU b) (exN a * exN b) false (exE a + exE b) := by unfold mulS; rw [if_neg (by omega)]
      rw [e0]
      by_cases h3 : kindN a = 3
      · rw [if_pos (.inl h3)]
        rw [h3] at Ka
        exact rmul_inf1 m a b _ Ka Kb _ hx _ hor (nef (n := 0) (by omega)) w
      · by_cases h4 : kindN b = 3
        · rw [if_pos (.inr h4)]
          rw [h4] at Kb
          exact rmul_inf2 m a b _ Ka Kb _ hx _ hor (nef (n := 0) (by omega)) (nef (n := 3) h3) w
        · rw [if_neg (by omega)]
          by_cases h5 : kindN a = 0
          · rw [if_pos (.inl h5)]
            rw [h5] at Ka
            exact rmul_z1 m a b _ Ka Kb _ hx (nef (n := 3) h4) w
          · by_cases h6 : kindN b = 0
            · rw [if_pos (.inr h6)]
              rw [h6] at Kb
              exact rmul_z2 m a b _ Ka Kb _ hx (nef (n := 3) h3) (nef (n := 0) h5) w
            · rw [if_neg (by omega)]
              have ha : exN a ≠ 0 := by omega
              have hb : exN b ≠ 0 := by omega
              have hab : exN a * exN b ≠ 0 := by rw [Ne, Nat.mul_eq_zero]; omega
              have b1 := exE_bounds a
              have b2 := exE_bounds b
              have b3 := bl_mul53 a b
              exact rmul_go m a b _ _ Ka Kb _ hx _ _ _ _ _ _ _ _ _ _ _ (fun W => rexact_any a ua W) (fun W => rexact_any b ub W)
                (fun W A B ca cb hA hB => rproduct_any _ _ A B ca cb _ _ _ _ W hA hB (exN_mod a) (exN_mod b) (by rw [IntKind.wrap_i64]; omega))
                (fun W A c hA => finite_S hab hm (by omega) (by omega) (by omega) W A c hA) (nef (n := 0) h5) (nef (n := 3) h3) (nef (n := 0) h6) (nef (n := 3) h4) w
theorem agree_3 {m a b c : Nat} (ua : U64 a) (ub : U64 b) (uc : U64 c) : Agree 3 m a b c :=
  agree_op (by decide) (by decide) (fun args w => Tryd.call132 args w) ua ub uc fun hm hN => by
    obtain ⟨ka, kb⟩ := nanS2 hN
    exact ⟨_, _, mulS_fl m a b, fun W => mul_any 3 m a b c hm ua ub ka kb W, fun hR W => rDo_3 m a b c _ _ (by omega) ua ub uc hR (fun W => rmul_any m a b hm ua ub ka kb W) W⟩
set_option maxRecDepth 100000 in
set_option maxHeartbeats 400000 in
theorem Products_any (A : Option Addr) (len cap : Nat) (hl : len ≤ maxLen) (w : World) (hT : TableAt w) (hst : StepsIn w A len) :
    Calls Tryd.prog 4 #[.slice A len cap] w fun e w' => e = .returned (.bool true) ∧ Below w.heap.size w w' := by
  have C1 := Lib.hid (fun W hT hst => of_any A len cap 3 3 hl W hT hst fun o m a b c ho _ h1 h2 ua ub uc => by
    obtain rfl : o = 3 := by omega
    exact agree_3 ua ub uc)
  replace hst := Lib.hid hst
  replace hT := Lib.hid hT
  clear hl
  go_enter Tryd.func4, Tryd.ntmps4
  go_wp2_with fail
  refine (C1.out _ hT.out hst.out).mono ?_
  rintro e w1 ⟨rfl, hb1⟩
  go_wp2_with fail
  go_ret
  exact ⟨rfl, hb1⟩
end Go.Proofs.YtldmbneckcjonaaDoor
