/- Several texts in one: softfloatlaw.known: the walk where a number is 0. · softfloatlaw.known, whole. -/
import Derived.Deep.Cut
import Derived.Deep.QuietTactic
import Derived.BigQuiet
import Derived.Test.YtldmbneckcjonabDoorGY
import Derived.Test.YtldmbneckcjonabDoorGS
import Derived.Test.YtldmbneckcjonabDoorGH
import Derived.Test.YtldmbneckcjonabDoorGI
import Derived.Test.YtldmbneckcjonabDoorGF
set_option linter.unusedVariables false
set_option linter.unusedSimpArgs false
namespace Go.Proofs.YtldmbneckcjonabDoor
open Go.RowKit
set_option maxRecDepth 100000 in
set_option maxHeartbeats 8000000 in
theorem known_zero (op md a b c ab amb pm : Int) (A B C A0 B0 C0 t u x y ws wd wp s1 f1 s2 f2 s3 f3 : Nat)
    (hm : IntKind.u8.wrap md = t) (hu : (t : Int).tmod 5 = u)
    (hA : bits .and .u64 (A : Int) 67108863 = A0) (hB : bits .and .u64 (B : Int) 67108863 = B0) (hC : bits .and .u64 (C : Int) 67108863 = C0)
    (wA : IntKind.i64.wrap (A0 : Int) = A0) (wB : IntKind.i64.wrap (B0 : Int) = B0) (wC : IntKind.i64.wrap (C0 : Int) = C0)
    (sA : IntKind.i64.wrap ((A0 : Int) - 33554432) = a) (sB : IntKind.i64.wrap ((B0 : Int) - 33554432) = b) (sC : IntKind.i64.wrap ((C0 : Int) - 33554432) = c)
    (hab : IntKind.i64.wrap (a + b) = ab) (hamb : IntKind.i64.wrap (a - b) = amb) (hpm : IntKind.i64.wrap (a * b) = pm)
    (Wx : Hid (∀ W, Calls Tryd.prog 13 #[.int .i64 a] W fun e w' => e = .returned (.int .u64 x) ∧ w' = W))
    (Wy : Hid (∀ W, Calls Tryd.prog 13 #[.int .i64 b] W fun e w' => e = .returned (.int .u64 y) ∧ w' = W))
    (Ws : Hid (∀ W, Calls Tryd.prog 13 #[.int .i64 ab] W fun e w' => e = .returned (.int .u64 ws) ∧ w' = W))
    (Wd : Hid (∀ W, Calls Tryd.prog 13 #[.int .i64 amb] W fun e w' => e = .returned (.int .u64 wd) ∧ w' = W))
    (Wp : Hid (∀ W, Calls Tryd.prog 13 #[.int .i64 pm] W fun e w' => e = .returned (.int .u64 wp) ∧ w' = W))
    (D1 : Hid (∀ W, TableAt W → Calls Tryd.prog 9 #[.agg #[.int .u8 1, .int .u8 u, .int .u64 x, .int .u64 y, .int .u64 0]] W (SoftOut s1 f1 false W)))
    (D2 : Hid (∀ W, TableAt W → Calls Tryd.prog 9 #[.agg #[.int .u8 2, .int .u8 u, .int .u64 x, .int .u64 y, .int .u64 0]] W (SoftOut s2 f2 false W)))
    (D3 : Hid (∀ W, TableAt W → Calls Tryd.prog 9 #[.agg #[.int .u8 3, .int .u8 u, .int .u64 x, .int .u64 y, .int .u64 0]] W (SoftOut s3 f3 false W)))
    (hS : Unless ab s1 ws f1) (hD : Unless amb s2 wd f2) (hP : Unless pm s3 wp f3) (hz : (a == 0) = true ∨ ((a == 0) = false ∧ (b == 0) = true))
    (w : World) (hT : Hid (TableAt w)) : Calls Tryd.prog 8 #[LREC op md A B C] w fun e w' => e = .returned (.bool true) ∧ Below w.heap.size w w' := by
  have hE0 : Env w w.heap.size [] (w.alloc (.cells #[.int .i64 op, .int .i64 md, .int .u64 A, .int .u64 B, .int .u64 C] 27)) := (Env.nil (Below.refl _ _)).alloc _
  go_enter Tryd.func8, Tryd.ntmps8
  go_upto_region 7 with (first | (go_at_call_of 13 (Value.int IntKind.i64 a); refine (Wx.out _).mono ?_; rintro e w' ⟨rfl, rfl⟩) | (go_at_call_of 13 (Value.int IntKind.i64 b); refine (Wy.out _).mono ?_; rintro e w' ⟨rfl, rfl⟩))
  go_cut [9] (fun s wx => ∃ g1 B : Nat, s = .pointer (some ⟨g1, 0, none⟩) ∧ Env w B ((g1, 0, .int .u64 s1) :: (g1, 1, .int .u8 f1) :: (g1, 2, .bool false) :: []) wx)
  case first =>
    as_aux_lemma =>
      have hz0 := hE0.size
      go_wp2_with fail
      refine (D1.out _ (hT.out.below (Nat.le_refl _) (Env.below (B := w.heap.size) (C := []) (by repeat' (first | with_reducible assumption | with_reducible refine Env.drew ?_ | with_reducible refine Env.drewN ?_ _ | with_reducible refine Env.alloc ?_ _ | with_reducible refine Env.put ?_ (by omega) _ _))))).mono ?_
      rintro e w1 ⟨rfl, hb1⟩
      have hE1 : Env w w.heap.size ([]) w1 := Env.call (by repeat' (first | with_reducible assumption | with_reducible refine Env.drew ?_ | with_reducible refine Env.drewN ?_ _ | with_reducible refine Env.alloc ?_ _ | with_reducible refine Env.put ?_ (by omega) _ _)) hb1
      have hz1 := hE1.size
      go_wp2_with fail
      go_meet
      refine ⟨_, _, rfl, Env.add3 (B := w.heap.size) (by repeat' (first | with_reducible assumption | with_reducible refine Env.drew ?_ | with_reducible refine Env.drewN ?_ _ | with_reducible refine Env.alloc ?_ _ | with_reducible refine Env.put ?_ (by omega) _ _)) ?_ ?_ ?_⟩ <;> (go_simp; done)
  case rest =>
    obtain ⟨g1, B1, rfl, hE1⟩ := hcut
    go_upto_region 8 with (fail)
    go_cut [10] (fun s wx => ∃ g2 B : Nat, s = .pointer (some ⟨g2, 0, none⟩) ∧ Env w B ((g2, 0, .int .u64 s2) :: (g2, 1, .int .u8 f2) :: (g2, 2, .bool false) :: (g1, 0, .int .u64 s1) :: (g1, 1, .int .u8 f1) :: (g1, 2, .bool false) :: []) wx)
    case first =>
      as_aux_lemma =>
        have hz0 := hE1.size
        go_wp2_with fail
        refine (D2.out _ (hT.out.below (Nat.le_refl _) (Env.below (B := B1) (C := (g1, 0, .int .u64 s1) :: (g1, 1, .int .u8 f1) :: (g1, 2, .bool false) :: []) (by repeat' (first | with_reducible assumption | with_reducible refine Env.drew ?_ | with_reducible refine Env.drewN ?_ _ | with_reducible refine Env.alloc ?_ _ | with_reducible refine Env.put ?_ (by omega) _ _))))).mono ?_
        rintro e w1 ⟨rfl, hb1⟩
        have hE1 : Env w B1 ((g1, 0, .int .u64 s1) :: (g1, 1, .int .u8 f1) :: (g1, 2, .bool false) :: []) w1 := Env.call (by repeat' (first | with_reducible assumption | with_reducible refine Env.drew ?_ | with_reducible refine Env.drewN ?_ _ | with_reducible refine Env.alloc ?_ _ | with_reducible refine Env.put ?_ (by omega) _ _)) hb1
        have hz1 := hE1.size
        go_wp2_with fail
        go_meet
        refine ⟨_, _, rfl, Env.add3 (B := B1) (by repeat' (first | with_reducible assumption | with_reducible refine Env.drew ?_ | with_reducible refine Env.drewN ?_ _ | with_reducible refine Env.alloc ?_ _ | with_reducible refine Env.put ?_ (by omega) _ _)) ?_ ?_ ?_⟩ <;> (go_simp; done)
    case rest =>
      obtain ⟨g2, B2, rfl, hE2⟩ := hcut
      clear hE1
      go_upto_region 9 with (fail)
      go_cut [11] (fun s wx => ∃ g3 B : Nat, s = .pointer (some ⟨g3, 0, none⟩) ∧ Env w B ((g3, 0, .int .u64 s3) :: (g3, 1, .int .u8 f3) :: (g3, 2, .bool false) :: (g2, 0, .int .u64 s2) :: (g2, 1, .int .u8 f2) :: (g2, 2, .bool false) :: (g1, 0, .int .u64 s1) :: (g1, 1, .int .u8 f1) :: (g1, 2, .bool false) :: []) wx)
      case first =>
        as_aux_lemma =>
          have hz0 := hE2.size
          go_wp2_with fail
          refine (D3.out _ (hT.out.below (Nat.le_refl _) (Env.below (B := B2) (C := (g2, 0, .int .u64 s2) :: (g2, 1, .int .u8 f2) :: (g2, 2, .bool false) :: (g1, 0, .int .u64 s1) :: (g1, 1, .int .u8 f1) :: (g1, 2, .bool false) :: []) (by repeat' (first | with_reducible assumption | with_reducible refine Env.drew ?_ | with_reducible refine Env.drewN ?_ _ | with_reducible refine Env.alloc ?_ _ | with_reducible refine Env.put ?_ (by omega) _ _))))).mono ?_
          rintro e w1 ⟨rfl, hb1⟩
          have hE1 : Env w B2 ((g2, 0, .int .u64 s2) :: (g2, 1, .int .u8 f2) :: (g2, 2, .bool false) :: (g1, 0, .int .u64 s1) :: (g1, 1, .int .u8 f1) :: (g1, 2, .bool false) :: []) w1 := Env.call (by repeat' (first | with_reducible assumption | with_reducible refine Env.drew ?_ | with_reducible refine Env.drewN ?_ _ | with_reducible refine Env.alloc ?_ _ | with_reducible refine Env.put ?_ (by omega) _ _)) hb1
          have hz1 := hE1.size
          go_wp2_with fail
          go_meet
          refine ⟨_, _, rfl, Env.add3 (B := B2) (by repeat' (first | with_reducible assumption | with_reducible refine Env.drew ?_ | with_reducible refine Env.drewN ?_ _ | with_reducible refine Env.alloc ?_ _ | with_reducible refine Env.put ?_ (by omega) _ _)) ?_ ?_ ?_⟩ <;> (go_simp; done)
      case rest =>
        obtain ⟨g3, B3, rfl, hE3⟩ := hcut
        clear hE2
        go_upto_region 10 with (fail)
        go_cut [74] (fun s wx => s = .bool false ∧ Env w B3 ((g3, 0, .int .u64 s3) :: (g3, 1, .int .u8 f3) :: (g3, 2, .bool false) :: (g2, 0, .int .u64 s2) :: (g2, 1, .int .u8 f2) :: (g2, 2, .bool false) :: (g1, 0, .int .u64 s1) :: (g1, 1, .int .u8 f1) :: (g1, 2, .bool false) :: []) wx)
        case first =>
          as_aux_lemma =>
            have c1_0 := hE3.get (b := g1) (i := 0) (v := .int .u64 s1) (by simp)
            have c1_1 := hE3.get (b := g1) (i := 1) (v := .int .u8 f1) (by simp)
            have c1_2 := hE3.get (b := g1) (i := 2) (v := .bool false) (by simp)
            rcases hS with rfl | ⟨n1, n2, n3, rfl, rfl⟩
            all_goals
              go_big_quiet (first | (go_at_call_of 13 (Value.int IntKind.i64 ab); exact Calls.quiet_of_same (Ws.out _)) | fail)
              go_wp2_with fail
              go_meet
              exact ⟨rfl, by repeat' (first | with_reducible assumption | with_reducible refine Env.drew ?_ | with_reducible refine Env.drewN ?_ _ | with_reducible refine Env.alloc ?_ _ | with_reducible refine Env.put ?_ (by omega) _ _)⟩
        case rest =>
          obtain ⟨rfl, hE9⟩ := hcut
          clear hE3 hS
          have hE3 := hE9
          clear hE9
          go_upto_region 12 with (fail)
          go_cut [87] (fun s wx => s = .bool false ∧ Env w B3 ((g3, 0, .int .u64 s3) :: (g3, 1, .int .u8 f3) :: (g3, 2, .bool false) :: (g2, 0, .int .u64 s2) :: (g2, 1, .int .u8 f2) :: (g2, 2, .bool false) :: (g1, 0, .int .u64 s1) :: (g1, 1, .int .u8 f1) :: (g1, 2, .bool false) :: []) wx)
          case first =>
            as_aux_lemma =>
              have c2_0 := hE3.get (b := g2) (i := 0) (v := .int .u64 s2) (by simp)
              have c2_1 := hE3.get (b := g2) (i := 1) (v := .int .u8 f2) (by simp)
              have c2_2 := hE3.get (b := g2) (i := 2) (v := .bool false) (by simp)
              rcases hD with rfl | ⟨n1, n2, n3, rfl, rfl⟩
              all_goals
                go_big_quiet (first | (go_at_call_of 13 (Value.int IntKind.i64 amb); exact Calls.quiet_of_same (Wd.out _)) | fail)
                go_wp2_with fail
                go_meet
                exact ⟨rfl, by repeat' (first | with_reducible assumption | with_reducible refine Env.drew ?_ | with_reducible refine Env.drewN ?_ _ | with_reducible refine Env.alloc ?_ _ | with_reducible refine Env.put ?_ (by omega) _ _)⟩
          case rest =>
            obtain ⟨rfl, hE9⟩ := hcut
            clear hE3 hD
            have hE3 := hE9
            clear hE9
            go_upto_region 14 with (fail)
            go_cut [100] (fun s wx => s = .bool false ∧ Env w B3 ((g3, 0, .int .u64 s3) :: (g3, 1, .int .u8 f3) :: (g3, 2, .bool false) :: (g2, 0, .int .u64 s2) :: (g2, 1, .int .u8 f2) :: (g2, 2, .bool false) :: (g1, 0, .int .u64 s1) :: (g1, 1, .int .u8 f1) :: (g1, 2, .bool false) :: []) wx)
            case first =>
              as_aux_lemma =>
                have c3_0 := hE3.get (b := g3) (i := 0) (v := .int .u64 s3) (by simp)
                have c3_1 := hE3.get (b := g3) (i := 1) (v := .int .u8 f3) (by simp)
                have c3_2 := hE3.get (b := g3) (i := 2) (v := .bool false) (by simp)
                rcases hP with rfl | ⟨n1, n2, n3, rfl, rfl⟩
                all_goals
                  go_big_quiet (first | (go_at_call_of 13 (Value.int IntKind.i64 pm); exact Calls.quiet_of_same (Wp.out _)) | fail)
                  go_wp2_with fail
                  go_meet
                  exact ⟨rfl, by repeat' (first | with_reducible assumption | with_reducible refine Env.drew ?_ | with_reducible refine Env.drewN ?_ _ | with_reducible refine Env.alloc ?_ _ | with_reducible refine Env.put ?_ (by omega) _ _)⟩
            case rest =>
              obtain ⟨rfl, hE9⟩ := hcut
              clear hE3 hP
              have hE3 := hE9
              clear hE9
              rcases hz with z1 | ⟨z1, z2⟩
              all_goals
                go_wp2_with fail
                go_ret
                exact ⟨rfl, hE3.below⟩
end Go.Proofs.YtldmbneckcjonabDoor
namespace Go.Proofs.YtldmbneckcjonabDoor
open Go.RowKit
theorem nan_no {a b c : Nat} (ka : kindN a < 4) (kb : kindN b < 4) (kc : kindN c < 4) : ∀ i, nanS a b c i = false
  | 0 => rfl
  | i + 1 => by
    have h : kindN (opnd a b c i) < 4 := by unfold opnd; split; exact ka; split; exact kb; exact kc
    unfold nanS; rw [nan_no ka kb kc i, decide_eq_false (by omega)]; rfl
theorem do_known {o m a b c : Nat} (h1 : 1 ≤ o) (h2 : o ≤ 9) (hm : m < 5) (ua : U64 a) (ub : U64 b) (uc : U64 c) (ka : kindN a < 3) (kb : kindN b < 3) (kc : kindN c < 3) {x f : Nat} (hv : opS o m a b c = (x, f)) : Hid (∀ W, TableAt W → Calls Tryd.prog 9 #[REC o m a b c] W (SoftOut x f false W)) :=
  Lib.hid fun W hT => do_val h1 h2 hm ua ub uc (nan_no (by omega) (by omega) (by omega) _) hv W hT
theorem unless_of {n : Int} {p : Nat × Nat} {x : Nat} (h : n ≠ 0 → p = (x, 0)) : Unless n p.1 x p.2 := by
  by_cases h0 : n = 0
  · exact .inl h0
  · have e := h h0
    have b : (n == 0) = false := by rw [beq_eq_false_iff_ne]; exact h0
    exact .inr ⟨by simpa using h0, b, h0, by rw [e], by rw [e]⟩
theorem cbrt_0 {m : Nat} : cbrtS m 0 = (0, 0) := by unfold cbrtS; rw [if_pos (.inr zero_parts.2.2.1)]
theorem hyp_0 {m : Nat} : hypS m 0 0 = (0, 0) := by
  unfold hypS
  have h := zero_parts.2.2.1
  rw [if_neg (by omega), if_pos ⟨h, h⟩]
theorem cbrt_known {m k : Nat} (hk : k < 65536) : cbrtS m (wholeB ((k * k * k : Nat) : Int)) = (wholeB (k : Int), 0) := by
  obtain ⟨q1, q2⟩ := cube_small hk
  by_cases h0 : k = 0
  · subst h0
    show cbrtS m (wholeB 0) = (wholeB 0, 0)
    rw [wholeB_0]; exact cbrt_0
  · exact cbrt_whole h0 (bl_le.2 (by omega)) (bl_le.2 (by omega))
theorem hyp_known {m t : Nat} (ht : t < 1048576) : hypS m (wholeB ((3 * t : Nat) : Int)) (wholeB (-((4 * t : Nat) : Int))) = (wholeB ((5 * t : Nat) : Int), 0) := by
  by_cases h0 : t = 0
  · subst h0
    show hypS m (wholeB 0) (wholeB 0) = (wholeB 0, 0)
    rw [wholeB_0]; exact hyp_0
  · exact hyp_whole h0 (bl_le.2 (by omega)) (bl_le.2 (by omega)) (bl_le.2 (by omega))
theorem mode_5 (t : Nat) : (t : Int).tmod 5 = ((t % 5 : Nat) : Int) := by
  rw [Int.tmod_eq_emod_of_nonneg (by omega)]; omega
set_option maxRecDepth 100000 in
set_option maxHeartbeats 4000000 in
theorem known_any (op md : Int) (A B C : Nat) (w : World) (hT : TableAt w) : Calls Tryd.prog 8 #[LREC op md A B C] w fun e w' => e = .returned (.bool true) ∧ Below w.heap.size w w' := by
  obtain ⟨mt, hmt⟩ : ∃ mt : Nat, md % 256 = mt := ⟨(md % 256).toNat, by omega⟩
  have hm : IntKind.u8.wrap md = mt := by rw [IntKind.wrap_u8]; exact hmt
  have hu := mode_5 mt
  have hum : mt % 5 < 5 := Nat.mod_lt _ (by decide)
  have hA := and_26 A
  have hB := and_26 B
  have hC := and_26 C
  have lA : A % 67108864 < 67108864 := Nat.mod_lt _ (by decide)
  have lB : B % 67108864 < 67108864 := Nat.mod_lt _ (by decide)
  have lC : C % 67108864 < 67108864 := Nat.mod_lt _ (by decide)
  generalize A % 67108864 = A0 at hA lA
  generalize B % 67108864 = B0 at hB lB
  generalize C % 67108864 = C0 at hC lC
  generalize mt % 5 = u at hu hum
  have wA : IntKind.i64.wrap (A0 : Int) = A0 := wr (by omega)
  have wB : IntKind.i64.wrap (B0 : Int) = B0 := wr (by omega)
  have wC : IntKind.i64.wrap (C0 : Int) = C0 := wr (by omega)
  obtain ⟨a, ea⟩ : ∃ a : Int, (A0 : Int) - 33554432 = a := ⟨_, rfl⟩
  obtain ⟨b, eb⟩ : ∃ b : Int, (B0 : Int) - 33554432 = b := ⟨_, rfl⟩
  obtain ⟨c, ec⟩ : ∃ c : Int, (C0 : Int) - 33554432 = c := ⟨_, rfl⟩
  have la : a.natAbs ≤ 33554432 := by omega
  have lb : b.natAbs ≤ 33554432 := by omega
  have lc : c.natAbs ≤ 33554432 := by omega
  have sA : IntKind.i64.wrap ((A0 : Int) - 33554432) = a := by rw [ea]; exact wr (by omega)
  have sB : IntKind.i64.wrap ((B0 : Int) - 33554432) = b := by rw [eb]; exact wr (by omega)
  have sC : IntKind.i64.wrap ((C0 : Int) - 33554432) = c := by rw [ec]; exact wr (by omega)
  clear ea eb ec lA lB lC hmt
  have lp := mul_small la lb
  have lq := mul_small la la
  have hab : IntKind.i64.wrap (a + b) = a + b := wr (by omega)
  have hamb : IntKind.i64.wrap (a - b) = a - b := wr (by omega)
  have hpm : IntKind.i64.wrap (a * b) = a * b := wr (by omega)
  have haa : IntKind.i64.wrap (a * a) = a * a := wr (by omega)
  obtain ⟨u1, _, k1, _⟩ := whole_val a (blk_53 (by omega))
  obtain ⟨u2, _, k2, _⟩ := whole_val b (blk_53 (by omega))
  obtain ⟨u3, _, k3, _⟩ := whole_val c (blk_53 (by omega))
  obtain ⟨u0, _, k0, _⟩ := zero_parts
  have k0' : kindN 0 < 3 := by rw [k0]; decide
  have Wx : Hid (∀ W, Calls Tryd.prog 13 #[.int .i64 (a)] W fun e w' => e = .returned (.int .u64 (wholeB (a))) ∧ w' = W) := Lib.hid fun W => (whole_any _ (blk_53 (by omega)) W).mono fun _ _ h => ⟨h.1, h.2.symm⟩
  have Wy : Hid (∀ W, Calls Tryd.prog 13 #[.int .i64 (b)] W fun e w' => e = .returned (.int .u64 (wholeB (b))) ∧ w' = W) := Lib.hid fun W => (whole_any _ (blk_53 (by omega)) W).mono fun _ _ h => ⟨h.1, h.2.symm⟩
  have Wz : Hid (∀ W, Calls Tryd.prog 13 #[.int .i64 (c)] W fun e w' => e = .returned (.int .u64 (wholeB (c))) ∧ w' = W) := Lib.hid fun W => (whole_any _ (blk_53 (by omega)) W).mono fun _ _ h => ⟨h.1, h.2.symm⟩
  have Ws : Hid (∀ W, Calls Tryd.prog 13 #[.int .i64 (a + b)] W fun e w' => e = .returned (.int .u64 (wholeB (a + b))) ∧ w' = W) := Lib.hid fun W => (whole_any _ (blk_53 (by omega)) W).mono fun _ _ h => ⟨h.1, h.2.symm⟩
  have Wd : Hid (∀ W, Calls Tryd.prog 13 #[.int .i64 (a - b)] W fun e w' => e = .returned (.int .u64 (wholeB (a - b))) ∧ w' = W) := Lib.hid fun W => (whole_any _ (blk_53 (by omega)) W).mono fun _ _ h => ⟨h.1, h.2.symm⟩
  have Wp : Hid (∀ W, Calls Tryd.prog 13 #[.int .i64 (a * b)] W fun e w' => e = .returned (.int .u64 (wholeB (a * b))) ∧ w' = W) := Lib.hid fun W => (whole_any _ (blk_53 (by omega)) W).mono fun _ _ h => ⟨h.1, h.2.symm⟩
  have Waa : Hid (∀ W, Calls Tryd.prog 13 #[.int .i64 (a * a)] W fun e w' => e = .returned (.int .u64 (wholeB (a * a))) ∧ w' = W) := Lib.hid fun W => (whole_any _ (blk_53 (by omega)) W).mono fun _ _ h => ⟨h.1, h.2.symm⟩
  have D1 := do_known (o := 1) (m := u) (a := wholeB a) (b := wholeB b) (c := 0) (by decide) (by decide) hum u1 u2 u0 k1 k2 k0' (x := (opS 1 u (wholeB a) (wholeB b) 0).1) (f := (opS 1 u (wholeB a) (wholeB b) 0).2) rfl
  have D2 := do_known (o := 2) (m := u) (a := wholeB a) (b := wholeB b) (c := 0) (by decide) (by decide) hum u1 u2 u0 k1 k2 k0' (x := (opS 2 u (wholeB a) (wholeB b) 0).1) (f := (opS 2 u (wholeB a) (wholeB b) 0).2) rfl
  have D3 := do_known (o := 3) (m := u) (a := wholeB a) (b := wholeB b) (c := 0) (by decide) (by decide) hum u1 u2 u0 k1 k2 k0' (x := (opS 3 u (wholeB a) (wholeB b) 0).1) (f := (opS 3 u (wholeB a) (wholeB b) 0).2) rfl
  have hS : Unless (a + b) (opS 1 u (wholeB a) (wholeB b) 0).1 (wholeB (a + b)) (opS 1 u (wholeB a) (wholeB b) 0).2 := unless_of fun h => (opS_1 _ _ _ _).trans (add_whole (blk_53 (by omega)) (blk_53 (by omega)) h (blk_53 (by omega)))
  have hD : Unless (a - b) (opS 2 u (wholeB a) (wholeB b) 0).1 (wholeB (a - b)) (opS 2 u (wholeB a) (wholeB b) 0).2 := unless_of fun h => (opS_2 _ _ _ _).trans (minus_whole (blk_53 (by omega)) (blk_53 (by omega)) h (blk_53 (by omega)))
  have hP : Unless (a * b) (opS 3 u (wholeB a) (wholeB b) 0).1 (wholeB (a * b)) (opS 3 u (wholeB a) (wholeB b) 0).2 := unless_of fun h => (opS_3 _ _ _ _).trans (mul_whole (blk_53 (by omega)) (blk_53 (by omega)) (fun e => h (by rw [e, Int.zero_mul])) (fun e => h (by rw [e, Int.mul_zero])) (blk_53 (by omega)))
  by_cases a0 : a = 0
  · exact known_zero op md a b c (a + b) (a - b) (a * b) A B C A0 B0 C0 mt u (wholeB a) (wholeB b) (wholeB (a + b)) (wholeB (a - b)) (wholeB (a * b)) _ _ _ _ _ _ hm hu hA hB hC wA wB wC sA sB sC hab hamb hpm Wx Wy Ws Wd Wp D1 D2 D3 hS hD hP (.inl (by rw [a0]; rfl)) w (Lib.hid hT)
  have a0' : (a == 0) = false := by rw [beq_eq_false_iff_ne]; exact a0
  by_cases b0 : b = 0
  · exact known_zero op md a b c (a + b) (a - b) (a * b) A B C A0 B0 C0 mt u (wholeB a) (wholeB b) (wholeB (a + b)) (wholeB (a - b)) (wholeB (a * b)) _ _ _ _ _ _ hm hu hA hB hC wA wB wC sA sB sC hab hamb hpm Wx Wy Ws Wd Wp D1 D2 D3 hS hD hP (.inr ⟨a0', by rw [b0]; rfl⟩) w (Lib.hid hT)
  have b0' : (b == 0) = false := by rw [beq_eq_false_iff_ne]; exact b0
  obtain ⟨k, hk⟩ : ∃ k : Nat, a % 65536 = k := ⟨(a % 65536).toNat, by omega⟩
  obtain ⟨t, ht⟩ : ∃ t : Nat, a % 1048576 = t := ⟨(a % 1048576).toNat, by omega⟩
  have lk : k < 65536 := by omega
  have lt : t < 1048576 := by omega
  have hk' : bits .and .i64 a 65535 = k := by rw [and_16]; exact hk
  have ht' : bits .and .i64 a 1048575 = t := by rw [and_20]; exact ht
  clear hk ht
  obtain ⟨q1, q2⟩ := cube_small lk
  have hkk : IntKind.i64.wrap ((k : Int) * k) = ((k * k : Nat) : Int) := by rw [← Int.natCast_mul]; exact wr (by rw [Int.natAbs_natCast]; omega)
  have hkkk : IntKind.i64.wrap (((k * k : Nat) : Int) * k) = ((k * k * k : Nat) : Int) := by rw [← Int.natCast_mul]; exact wr (by rw [Int.natAbs_natCast]; omega)
  have h3 : IntKind.i64.wrap (3 * (t : Int)) = ((3 * t : Nat) : Int) := by rw [show (3 : Int) * t = ((3 * t : Nat) : Int) from by omega]; exact wr (by omega)
  have h4 : IntKind.i64.wrap (-4 * (t : Int)) = -((4 * t : Nat) : Int) := by rw [show (-4 : Int) * t = -((4 * t : Nat) : Int) from by omega]; exact wr (by omega)
  have h5 : IntKind.i64.wrap (5 * (t : Int)) = ((5 * t : Nat) : Int) := by rw [show (5 : Int) * t = ((5 * t : Nat) : Int) from by omega]; exact wr (by omega)
  have lf : (a * b + c).natAbs ≤ 1125900000000000 := by omega
  have hfv : IntKind.i64.wrap (a * b + c) = a * b + c := wr (by omega)
  have hn : (a < 0 ∧ ¬ 0 ≤ a ∧ decide (a < 0) = true ∧ wrap64 (-a) = (a.natAbs : Int)) ∨ (0 ≤ a ∧ ¬ a < 0 ∧ decide (a < 0) = false ∧ a = (a.natAbs : Int)) := by
    by_cases h : a < 0
    · exact .inl ⟨h, by omega, decide_eq_true h, by unfold wrap64; omega⟩
    · exact .inr ⟨by omega, h, decide_eq_false h, by omega⟩
  obtain ⟨u4, _, k4, _⟩ := whole_val (a * b) (blk_53 (by omega))
  obtain ⟨u5, _, k5, _⟩ := whole_val (a * a) (blk_53 (by omega))
  obtain ⟨u6, _, k6, _⟩ := whole_val ((k * k * k : Nat) : Int) (blk_53 (by rw [Int.natAbs_natCast]; omega))
  obtain ⟨u7, _, k7, _⟩ := whole_val ((3 * t : Nat) : Int) (blk_53 (by omega))
  obtain ⟨u8, _, k8, _⟩ := whole_val (-((4 * t : Nat) : Int)) (blk_53 (by omega))
  have D4 := do_known (o := 4) (m := u) (a := wholeB (a * b)) (b := wholeB b) (c := 0) (by decide) (by decide) hum u4 u2 u0 k4 k2 k0' ((opS_4 _ _ _ _).trans (div_whole (blk_53 (by omega)) (blk_53 (by omega)) a0 b0 (blk_53 (by omega))))
  have D5 := do_known (o := 5) (m := u) (a := wholeB a) (b := wholeB b) (c := wholeB c) (by decide) (by decide) hum u1 u2 u3 k1 k2 k3 (x := (opS 5 u (wholeB a) (wholeB b) (wholeB c)).1) (f := (opS 5 u (wholeB a) (wholeB b) (wholeB c)).2) rfl
  have D6 := do_known (o := 6) (m := u) (a := wholeB (a * a)) (b := 0) (c := 0) (by decide) (by decide) hum u5 u0 u0 k5 k0' k0' ((opS_6 _ _ _ _).trans (sqrt_whole a0 (blk_53 (by omega)) (blk_53 (by omega))))
  have D7 := do_known (o := 8) (m := u) (a := wholeB ((k * k * k : Nat) : Int)) (b := 0) (c := 0) (by decide) (by decide) hum u6 u0 u0 k6 k0' k0' ((opS_8 _ _ _ _).trans (cbrt_known lk))
  have D8 := do_known (o := 9) (m := u) (a := wholeB ((3 * t : Nat) : Int)) (b := wholeB (-((4 * t : Nat) : Int))) (c := 0) (by decide) (by decide) hum u7 u8 u0 k7 k8 k0' ((opS_9 _ _ _ _).trans (hyp_known lt))
  have hF : Unless (a * b + c) (opS 5 u (wholeB a) (wholeB b) (wholeB c)).1 (wholeB (a * b + c)) (opS 5 u (wholeB a) (wholeB b) (wholeB c)).2 := unless_of fun h => (opS_5 _ _ _ _).trans (fma_whole (blk_53 (by omega)) (blk_53 (by omega)) (blk_53 (by omega)) a0 b0 h (blk_53 (by omega)))
  have Wk3 : Hid (∀ W, Calls Tryd.prog 13 #[.int .i64 (((k * k * k : Nat) : Int))] W fun e w' => e = .returned (.int .u64 (wholeB (((k * k * k : Nat) : Int)))) ∧ w' = W) := Lib.hid fun W => (whole_any _ (blk_53 (by rw [Int.natAbs_natCast]; omega)) W).mono fun _ _ h => ⟨h.1, h.2.symm⟩
  have Wh3 : Hid (∀ W, Calls Tryd.prog 13 #[.int .i64 (((3 * t : Nat) : Int))] W fun e w' => e = .returned (.int .u64 (wholeB (((3 * t : Nat) : Int)))) ∧ w' = W) := Lib.hid fun W => (whole_any _ (blk_53 (by omega)) W).mono fun _ _ h => ⟨h.1, h.2.symm⟩
  have Wh4 : Hid (∀ W, Calls Tryd.prog 13 #[.int .i64 (-((4 * t : Nat) : Int))] W fun e w' => e = .returned (.int .u64 (wholeB (-((4 * t : Nat) : Int)))) ∧ w' = W) := Lib.hid fun W => (whole_any _ (blk_53 (by omega)) W).mono fun _ _ h => ⟨h.1, h.2.symm⟩
  have Wn : Hid (∀ W, Calls Tryd.prog 13 #[.int .i64 ((a.natAbs : Int))] W fun e w' => e = .returned (.int .u64 (wholeB ((a.natAbs : Int)))) ∧ w' = W) := Lib.hid fun W => (whole_any _ (blk_53 (by omega)) W).mono fun _ _ h => ⟨h.1, h.2.symm⟩
  have Wk : Hid (∀ W, Calls Tryd.prog 13 #[.int .i64 ((k : Int))] W fun e w' => e = .returned (.int .u64 (wholeB ((k : Int)))) ∧ w' = W) := Lib.hid fun W => (whole_any _ (blk_53 (by omega)) W).mono fun _ _ h => ⟨h.1, h.2.symm⟩
  have Wh5 : Hid (∀ W, Calls Tryd.prog 13 #[.int .i64 (((5 * t : Nat) : Int))] W fun e w' => e = .returned (.int .u64 (wholeB (((5 * t : Nat) : Int)))) ∧ w' = W) := Lib.hid fun W => (whole_any _ (blk_53 (by omega)) W).mono fun _ _ h => ⟨h.1, h.2.symm⟩
  have Wf : Hid (∀ W, Calls Tryd.prog 13 #[.int .i64 (a * b + c)] W fun e w' => e = .returned (.int .u64 (wholeB (a * b + c))) ∧ w' = W) := Lib.hid fun W => (whole_any _ (blk_53 (by omega)) W).mono fun _ _ h => ⟨h.1, h.2.symm⟩
  exact known_walk op md a b c (a + b) (a - b) (a * b) (a * a) k ((k * k : Nat) : Int) ((k * k * k : Nat) : Int) t ((3 * t : Nat) : Int) (-((4 * t : Nat) : Int)) ((5 * t : Nat) : Int) (a * b + c) (a.natAbs : Int) A B C A0 B0 C0 mt u (wholeB a) (wholeB b) (wholeB c) (wholeB (a + b)) (wholeB (a - b)) (wholeB (a * b)) (wholeB (a * a)) (wholeB ((k * k * k : Nat) : Int)) (wholeB ((3 * t : Nat) : Int)) (wholeB (-((4 * t : Nat) : Int))) (wholeB (a.natAbs : Int)) (wholeB (k : Int)) (wholeB ((5 * t : Nat) : Int)) (wholeB (a * b + c)) _ _ _ _ _ _ _ _ hm hu hA hB hC wA wB wC sA sB sC hab hamb hpm haa hk' hkk hkkk ht' h3 h4 h5 hfv hn Wx Wy Wz Ws Wd Wp Waa Wk3 Wh3 Wh4 Wn Wk Wh5 Wf D1 D2 D3 D4 D5 D6 D7 D8 hS hD hP hF a0' b0' w (Lib.hid hT)
end Go.Proofs.YtldmbneckcjonabDoor
