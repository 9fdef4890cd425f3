/- Several texts in one: softfloatlaw.known: the walk. -/
import Derived.Deep.Cut
import Derived.Deep.QuietTactic
import Derived.BigQuiet
import Derived.Test.YtldmbneckcjonabDoorGY
import Derived.Test.YtldmbneckcjonabDoorGS
import Derived.Test.YtldmbneckcjonabDoorGH
set_option linter.unusedVariables false
set_option linter.unusedSimpArgs false
namespace Go.Proofs.YtldmbneckcjonabDoor
open Go.RowKit
set_option maxRecDepth 100000 in
set_option maxHeartbeats 8000000 in
theorem known_walk (op md a b c ab amb pm aa k kk kkk t20 v3 v4 v5 fv nn : Int) (A B C A0 B0 C0 t u x y z ws wd wp va vk b3 b4 wn wk b5 wf s1 f1 s2 f2 s3 f3 s5 f5 : Nat)
    (hm : IntKind.u8.wrap md = t) (hu : (t : Int).tmod 5 = u)
    (hA : bits .and .u64 (A : Int) 67108863 = A0) (hB : bits .and .u64 (B : Int) 67108863 = B0) (hC : bits .and .u64 (C : Int) 67108863 = C0)
    (wA : IntKind.i64.wrap (A0 : Int) = A0) (wB : IntKind.i64.wrap (B0 : Int) = B0) (wC : IntKind.i64.wrap (C0 : Int) = C0)
    (sA : IntKind.i64.wrap ((A0 : Int) - 33554432) = a) (sB : IntKind.i64.wrap ((B0 : Int) - 33554432) = b) (sC : IntKind.i64.wrap ((C0 : Int) - 33554432) = c)
    (hab : IntKind.i64.wrap (a + b) = ab) (hamb : IntKind.i64.wrap (a - b) = amb) (hpm : IntKind.i64.wrap (a * b) = pm) (haa : IntKind.i64.wrap (a * a) = aa)
    (hk : bits .and .i64 a 65535 = k) (hkk : IntKind.i64.wrap (k * k) = kk) (hkkk : IntKind.i64.wrap (kk * k) = kkk) (ht : bits .and .i64 a 1048575 = t20) (h3 : IntKind.i64.wrap (3 * t20) = v3) (h4 : IntKind.i64.wrap (-4 * t20) = v4) (h5 : IntKind.i64.wrap (5 * t20) = v5) (hfv : IntKind.i64.wrap (pm + c) = fv)
    (hn : (a < 0 ∧ ¬ 0 ≤ a ∧ decide (a < 0) = true ∧ wrap64 (-a) = nn) ∨ (0 ≤ a ∧ ¬ a < 0 ∧ decide (a < 0) = false ∧ a = nn))
    (Wx : Hid (∀ W, Calls Tryd.prog 13 #[.int .i64 a] W fun e w' => e = .returned (.int .u64 x) ∧ w' = W))
    (Wy : Hid (∀ W, Calls Tryd.prog 13 #[.int .i64 b] W fun e w' => e = .returned (.int .u64 y) ∧ w' = W))
    (Wz : Hid (∀ W, Calls Tryd.prog 13 #[.int .i64 c] W fun e w' => e = .returned (.int .u64 z) ∧ w' = W))
    (Ws : Hid (∀ W, Calls Tryd.prog 13 #[.int .i64 ab] W fun e w' => e = .returned (.int .u64 ws) ∧ w' = W))
    (Wd : Hid (∀ W, Calls Tryd.prog 13 #[.int .i64 amb] W fun e w' => e = .returned (.int .u64 wd) ∧ w' = W))
    (Wp : Hid (∀ W, Calls Tryd.prog 13 #[.int .i64 pm] W fun e w' => e = .returned (.int .u64 wp) ∧ w' = W))
    (Waa : Hid (∀ W, Calls Tryd.prog 13 #[.int .i64 aa] W fun e w' => e = .returned (.int .u64 va) ∧ w' = W))
    (Wk3 : Hid (∀ W, Calls Tryd.prog 13 #[.int .i64 kkk] W fun e w' => e = .returned (.int .u64 vk) ∧ w' = W))
    (Wh3 : Hid (∀ W, Calls Tryd.prog 13 #[.int .i64 v3] W fun e w' => e = .returned (.int .u64 b3) ∧ w' = W))
    (Wh4 : Hid (∀ W, Calls Tryd.prog 13 #[.int .i64 v4] W fun e w' => e = .returned (.int .u64 b4) ∧ w' = W))
    (Wn : Hid (∀ W, Calls Tryd.prog 13 #[.int .i64 nn] W fun e w' => e = .returned (.int .u64 wn) ∧ w' = W))
    (Wk : Hid (∀ W, Calls Tryd.prog 13 #[.int .i64 k] W fun e w' => e = .returned (.int .u64 wk) ∧ w' = W))
    (Wh5 : Hid (∀ W, Calls Tryd.prog 13 #[.int .i64 v5] W fun e w' => e = .returned (.int .u64 b5) ∧ w' = W))
    (Wf : Hid (∀ W, Calls Tryd.prog 13 #[.int .i64 fv] W fun e w' => e = .returned (.int .u64 wf) ∧ w' = W))
    (D1 : Hid (∀ W, TableAt W → Calls Tryd.prog 9 #[.agg #[.int .u8 1, .int .u8 u, .int .u64 x, .int .u64 y, .int .u64 0]] W (SoftOut s1 f1 false W)))
    (D2 : Hid (∀ W, TableAt W → Calls Tryd.prog 9 #[.agg #[.int .u8 2, .int .u8 u, .int .u64 x, .int .u64 y, .int .u64 0]] W (SoftOut s2 f2 false W)))
    (D3 : Hid (∀ W, TableAt W → Calls Tryd.prog 9 #[.agg #[.int .u8 3, .int .u8 u, .int .u64 x, .int .u64 y, .int .u64 0]] W (SoftOut s3 f3 false W)))
    (D4 : Hid (∀ W, TableAt W → Calls Tryd.prog 9 #[.agg #[.int .u8 4, .int .u8 u, .int .u64 wp, .int .u64 y, .int .u64 0]] W (SoftOut x 0 false W)))
    (D5 : Hid (∀ W, TableAt W → Calls Tryd.prog 9 #[.agg #[.int .u8 5, .int .u8 u, .int .u64 x, .int .u64 y, .int .u64 z]] W (SoftOut s5 f5 false W)))
    (D6 : Hid (∀ W, TableAt W → Calls Tryd.prog 9 #[.agg #[.int .u8 6, .int .u8 u, .int .u64 va, .int .u64 0, .int .u64 0]] W (SoftOut wn 0 false W)))
    (D7 : Hid (∀ W, TableAt W → Calls Tryd.prog 9 #[.agg #[.int .u8 8, .int .u8 u, .int .u64 vk, .int .u64 0, .int .u64 0]] W (SoftOut wk 0 false W)))
    (D8 : Hid (∀ W, TableAt W → Calls Tryd.prog 9 #[.agg #[.int .u8 9, .int .u8 u, .int .u64 b3, .int .u64 b4, .int .u64 0]] W (SoftOut b5 0 false W)))
    (hS : Unless ab s1 ws f1) (hD : Unless amb s2 wd f2) (hP : Unless pm s3 wp f3) (hF : Unless fv s5 wf f5) (ha0 : (a == 0) = false) (hb0 : (b == 0) = false)
    (w : World) (hT : Hid (TableAt w)) : Calls Tryd.prog 8 #[LREC op md A B C] w fun e w' => e = .returned (.bool true) ∧ Below w.heap.size w w' := by
  have hE0 : Env w w.heap.size [] (w.alloc (.cells #[.int .i64 op, .int .i64 md, .int .u64 A, .int .u64 B, .int .u64 C] 27)) := (Env.nil (Below.refl _ _)).alloc _
  go_enter Tryd.func8, Tryd.ntmps8
  go_upto_region 7 with (first | (go_at_call_of 13 (Value.int IntKind.i64 a); refine (Wx.out _).mono ?_; rintro e w' ⟨rfl, rfl⟩) | (go_at_call_of 13 (Value.int IntKind.i64 b); refine (Wy.out _).mono ?_; rintro e w' ⟨rfl, rfl⟩))
  go_cut [9] (fun s wx => ∃ g1 B : Nat, s = .pointer (some ⟨g1, 0, none⟩) ∧ Env w B ((g1, 0, .int .u64 s1) :: (g1, 1, .int .u8 f1) :: (g1, 2, .bool false) :: []) wx)
  case first =>
    as_aux_lemma =>
      have hz0 := hE0.size
      go_wp2_with fail
      refine (D1.out _ (hT.out.below (Nat.le_refl _) (Env.below (B := w.heap.size) (C := []) (by repeat' (first | with_reducible assumption | with_reducible refine Env.drew ?_ | with_reducible refine Env.drewN ?_ _ | with_reducible refine Env.alloc ?_ _ | with_reducible refine Env.put ?_ (by omega) _ _))))).mono ?_
      rintro e w1 ⟨rfl, hb1⟩
      have hE1 : Env w w.heap.size ([]) w1 := Env.call (by repeat' (first | with_reducible assumption | with_reducible refine Env.drew ?_ | with_reducible refine Env.drewN ?_ _ | with_reducible refine Env.alloc ?_ _ | with_reducible refine Env.put ?_ (by omega) _ _)) hb1
      have hz1 := hE1.size
      go_wp2_with fail
      go_meet
      refine ⟨_, _, rfl, Env.add3 (B := w.heap.size) (by repeat' (first | with_reducible assumption | with_reducible refine Env.drew ?_ | with_reducible refine Env.drewN ?_ _ | with_reducible refine Env.alloc ?_ _ | with_reducible refine Env.put ?_ (by omega) _ _)) ?_ ?_ ?_⟩ <;> (go_simp; done)
  case rest =>
    obtain ⟨g1, B1, rfl, hE1⟩ := hcut
    go_upto_region 8 with (fail)
    go_cut [10] (fun s wx => ∃ g2 B : Nat, s = .pointer (some ⟨g2, 0, none⟩) ∧ Env w B ((g2, 0, .int .u64 s2) :: (g2, 1, .int .u8 f2) :: (g2, 2, .bool false) :: (g1, 0, .int .u64 s1) :: (g1, 1, .int .u8 f1) :: (g1, 2, .bool false) :: []) wx)
    case first =>
      as_aux_lemma =>
        have hz0 := hE1.size
        go_wp2_with fail
        refine (D2.out _ (hT.out.below (Nat.le_refl _) (Env.below (B := B1) (C := (g1, 0, .int .u64 s1) :: (g1, 1, .int .u8 f1) :: (g1, 2, .bool false) :: []) (by repeat' (first | with_reducible assumption | with_reducible refine Env.drew ?_ | with_reducible refine Env.drewN ?_ _ | with_reducible refine Env.alloc ?_ _ | with_reducible refine Env.put ?_ (by omega) _ _))))).mono ?_
        rintro e w1 ⟨rfl, hb1⟩
        have hE1 : Env w B1 ((g1, 0, .int .u64 s1) :: (g1, 1, .int .u8 f1) :: (g1, 2, .bool false) :: []) w1 := Env.call (by repeat' (first | with_reducible assumption | with_reducible refine Env.drew ?_ | with_reducible refine Env.drewN ?_ _ | with_reducible refine Env.alloc ?_ _ | with_reducible refine Env.put ?_ (by omega) _ _)) hb1
        have hz1 := hE1.size
        go_wp2_with fail
        go_meet
        refine ⟨_, _, rfl, Env.add3 (B := B1) (by repeat' (first | with_reducible assumption | with_reducible refine Env.drew ?_ | with_reducible refine Env.drewN ?_ _ | with_reducible refine Env.alloc ?_ _ | with_reducible refine Env.put ?_ (by omega) _ _)) ?_ ?_ ?_⟩ <;> (go_simp; done)
    case rest =>
      obtain ⟨g2, B2, rfl, hE2⟩ := hcut
      clear hE1
      go_upto_region 9 with (fail)
      go_cut [11] (fun s wx => ∃ g3 B : Nat, s = .pointer (some ⟨g3, 0, none⟩) ∧ Env w B ((g3, 0, .int .u64 s3) :: (g3, 1, .int .u8 f3) :: (g3, 2, .bool false) :: (g2, 0, .int .u64 s2) :: (g2, 1, .int .u8 f2) :: (g2, 2, .bool false) :: (g1, 0, .int .u64 s1) :: (g1, 1, .int .u8 f1) :: (g1, 2, .bool false) :: []) wx)
      case first =>
        as_aux_lemma =>
          have hz0 := hE2.size
          go_wp2_with fail
          refine (D3.out _ (hT.out.below (Nat.le_refl _) (Env.below (B := B2) (C := (g2, 0, .int .u64 s2) :: (g2, 1, .int .u8 f2) :: (g2, 2, .bool false) :: (g1, 0, .int .u64 s1) :: (g1, 1, .int .u8 f1) :: (g1, 2, .bool false) :: []) (by repeat' (first | with_reducible assumption | with_reducible refine Env.drew ?_ | with_reducible refine Env.drewN ?_ _ | with_reducible refine Env.alloc ?_ _ | with_reducible refine Env.put ?_ (by omega) _ _))))).mono ?_
          rintro e w1 ⟨rfl, hb1⟩
          have hE1 : Env w B2 ((g2, 0, .int .u64 s2) :: (g2, 1, .int .u8 f2) :: (g2, 2, .bool false) :: (g1, 0, .int .u64 s1) :: (g1, 1, .int .u8 f1) :: (g1, 2, .bool false) :: []) w1 := Env.call (by repeat' (first | with_reducible assumption | with_reducible refine Env.drew ?_ | with_reducible refine Env.drewN ?_ _ | with_reducible refine Env.alloc ?_ _ | with_reducible refine Env.put ?_ (by omega) _ _)) hb1
          have hz1 := hE1.size
          go_wp2_with fail
          go_meet
          refine ⟨_, _, rfl, Env.add3 (B := B2) (by repeat' (first | with_reducible assumption | with_reducible refine Env.drew ?_ | with_reducible refine Env.drewN ?_ _ | with_reducible refine Env.alloc ?_ _ | with_reducible refine Env.put ?_ (by omega) _ _)) ?_ ?_ ?_⟩ <;> (go_simp; done)
      case rest =>
        obtain ⟨g3, B3, rfl, hE3⟩ := hcut
        clear hE2
        go_upto_region 10 with (fail)
        go_cut [74] (fun s wx => s = .bool false ∧ Env w B3 ((g3, 0, .int .u64 s3) :: (g3, 1, .int .u8 f3) :: (g3, 2, .bool false) :: (g2, 0, .int .u64 s2) :: (g2, 1, .int .u8 f2) :: (g2, 2, .bool false) :: (g1, 0, .int .u64 s1) :: (g1, 1, .int .u8 f1) :: (g1, 2, .bool false) :: []) wx)
        case first =>
          as_aux_lemma =>
            have c1_0 := hE3.get (b := g1) (i := 0) (v := .int .u64 s1) (by simp)
            have c1_1 := hE3.get (b := g1) (i := 1) (v := .int .u8 f1) (by simp)
            have c1_2 := hE3.get (b := g1) (i := 2) (v := .bool false) (by simp)
            rcases hS with rfl | ⟨n1, n2, n3, rfl, rfl⟩
            all_goals
              go_big_quiet (first | (go_at_call_of 13 (Value.int IntKind.i64 ab); exact Calls.quiet_of_same (Ws.out _)) | fail)
              go_wp2_with fail
              go_meet
              exact ⟨rfl, by repeat' (first | with_reducible assumption | with_reducible refine Env.drew ?_ | with_reducible refine Env.drewN ?_ _ | with_reducible refine Env.alloc ?_ _ | with_reducible refine Env.put ?_ (by omega) _ _)⟩
        case rest =>
          obtain ⟨rfl, hE9⟩ := hcut
          clear hE3 hS
          have hE3 := hE9
          clear hE9
          go_upto_region 12 with (fail)
          go_cut [87] (fun s wx => s = .bool false ∧ Env w B3 ((g3, 0, .int .u64 s3) :: (g3, 1, .int .u8 f3) :: (g3, 2, .bool false) :: (g2, 0, .int .u64 s2) :: (g2, 1, .int .u8 f2) :: (g2, 2, .bool false) :: (g1, 0, .int .u64 s1) :: (g1, 1, .int .u8 f1) :: (g1, 2, .bool false) :: []) wx)
          case first =>
            as_aux_lemma =>
              have c2_0 := hE3.get (b := g2) (i := 0) (v := .int .u64 s2) (by simp)
              have c2_1 := hE3.get (b := g2) (i := 1) (v := .int .u8 f2) (by simp)
              have c2_2 := hE3.get (b := g2) (i := 2) (v := .bool false) (by simp)
              rcases hD with rfl | ⟨n1, n2, n3, rfl, rfl⟩
              all_goals
                go_big_quiet (first | (go_at_call_of 13 (Value.int IntKind.i64 amb); exact Calls.quiet_of_same (Wd.out _)) | fail)
                go_wp2_with fail
                go_meet
                exact ⟨rfl, by repeat' (first | with_reducible assumption | with_reducible refine Env.drew ?_ | with_reducible refine Env.drewN ?_ _ | with_reducible refine Env.alloc ?_ _ | with_reducible refine Env.put ?_ (by omega) _ _)⟩
          case rest =>
            obtain ⟨rfl, hE9⟩ := hcut
            clear hE3 hD
            have hE3 := hE9
            clear hE9
            go_upto_region 14 with (fail)
            go_cut [100] (fun s wx => s = .bool false ∧ Env w B3 ((g3, 0, .int .u64 s3) :: (g3, 1, .int .u8 f3) :: (g3, 2, .bool false) :: (g2, 0, .int .u64 s2) :: (g2, 1, .int .u8 f2) :: (g2, 2, .bool false) :: (g1, 0, .int .u64 s1) :: (g1, 1, .int .u8 f1) :: (g1, 2, .bool false) :: []) wx)
            case first =>
              as_aux_lemma =>
                have c3_0 := hE3.get (b := g3) (i := 0) (v := .int .u64 s3) (by simp)
                have c3_1 := hE3.get (b := g3) (i := 1) (v := .int .u8 f3) (by simp)
                have c3_2 := hE3.get (b := g3) (i := 2) (v := .bool false) (by simp)
                rcases hP with rfl | ⟨n1, n2, n3, rfl, rfl⟩
                all_goals
                  go_big_quiet (first | (go_at_call_of 13 (Value.int IntKind.i64 pm); exact Calls.quiet_of_same (Wp.out _)) | fail)
                  go_wp2_with fail
                  go_meet
                  exact ⟨rfl, by repeat' (first | with_reducible assumption | with_reducible refine Env.drew ?_ | with_reducible refine Env.drewN ?_ _ | with_reducible refine Env.alloc ?_ _ | with_reducible refine Env.put ?_ (by omega) _ _)⟩
            case rest =>
              obtain ⟨rfl, hE9⟩ := hcut
              clear hE3 hP
              have hE3 := hE9
              clear hE9
              go_upto_region 18 with (fail)
              go_cut [12] (fun s wx => ∃ g4 B : Nat, s = .pointer (some ⟨g4, 0, none⟩) ∧ Env w B ((g4, 0, .int .u64 x) :: (g4, 1, .int .u8 0) :: (g4, 2, .bool false) :: (g3, 0, .int .u64 s3) :: (g3, 1, .int .u8 f3) :: (g3, 2, .bool false) :: (g2, 0, .int .u64 s2) :: (g2, 1, .int .u8 f2) :: (g2, 2, .bool false) :: (g1, 0, .int .u64 s1) :: (g1, 1, .int .u8 f1) :: (g1, 2, .bool false) :: []) wx)
              case first =>
                as_aux_lemma =>
                  have hz0 := hE3.size
                  go_wp2_with (first | (go_at_call_of 13 (Value.int IntKind.i64 pm); refine (Wp.out _).mono ?_; rintro e w' ⟨rfl, rfl⟩))
                  refine (D4.out _ (hT.out.below (Nat.le_refl _) (Env.below (B := B3) (C := (g3, 0, .int .u64 s3) :: (g3, 1, .int .u8 f3) :: (g3, 2, .bool false) :: (g2, 0, .int .u64 s2) :: (g2, 1, .int .u8 f2) :: (g2, 2, .bool false) :: (g1, 0, .int .u64 s1) :: (g1, 1, .int .u8 f1) :: (g1, 2, .bool false) :: []) (by repeat' (first | with_reducible assumption | with_reducible refine Env.drew ?_ | with_reducible refine Env.drewN ?_ _ | with_reducible refine Env.alloc ?_ _ | with_reducible refine Env.put ?_ (by omega) _ _))))).mono ?_
                  rintro e w1 ⟨rfl, hb1⟩
                  have hE1 : Env w B3 ((g3, 0, .int .u64 s3) :: (g3, 1, .int .u8 f3) :: (g3, 2, .bool false) :: (g2, 0, .int .u64 s2) :: (g2, 1, .int .u8 f2) :: (g2, 2, .bool false) :: (g1, 0, .int .u64 s1) :: (g1, 1, .int .u8 f1) :: (g1, 2, .bool false) :: []) w1 := Env.call (by repeat' (first | with_reducible assumption | with_reducible refine Env.drew ?_ | with_reducible refine Env.drewN ?_ _ | with_reducible refine Env.alloc ?_ _ | with_reducible refine Env.put ?_ (by omega) _ _)) hb1
                  have hz1 := hE1.size
                  go_wp2_with fail
                  go_meet
                  refine ⟨_, _, rfl, Env.add3 (B := B3) (by repeat' (first | with_reducible assumption | with_reducible refine Env.drew ?_ | with_reducible refine Env.drewN ?_ _ | with_reducible refine Env.alloc ?_ _ | with_reducible refine Env.put ?_ (by omega) _ _)) ?_ ?_ ?_⟩ <;> (go_simp; done)
              case rest =>
                obtain ⟨g4, B4, rfl, hE4⟩ := hcut
                clear hE3
                go_upto_region 19 with (fail)
                go_cut [13] (fun s wx => ∃ g5 B : Nat, s = .pointer (some ⟨g5, 0, none⟩) ∧ Env w B ((g5, 0, .int .u64 s5) :: (g5, 1, .int .u8 f5) :: (g5, 2, .bool false) :: (g4, 0, .int .u64 x) :: (g4, 1, .int .u8 0) :: (g4, 2, .bool false) :: (g3, 0, .int .u64 s3) :: (g3, 1, .int .u8 f3) :: (g3, 2, .bool false) :: (g2, 0, .int .u64 s2) :: (g2, 1, .int .u8 f2) :: (g2, 2, .bool false) :: (g1, 0, .int .u64 s1) :: (g1, 1, .int .u8 f1) :: (g1, 2, .bool false) :: []) wx)
                case first =>
                  as_aux_lemma =>
                    have hz0 := hE4.size
                    go_wp2_with (first | (go_at_call_of 13 (Value.int IntKind.i64 c); refine (Wz.out _).mono ?_; rintro e w' ⟨rfl, rfl⟩))
                    refine (D5.out _ (hT.out.below (Nat.le_refl _) (Env.below (B := B4) (C := (g4, 0, .int .u64 x) :: (g4, 1, .int .u8 0) :: (g4, 2, .bool false) :: (g3, 0, .int .u64 s3) :: (g3, 1, .int .u8 f3) :: (g3, 2, .bool false) :: (g2, 0, .int .u64 s2) :: (g2, 1, .int .u8 f2) :: (g2, 2, .bool false) :: (g1, 0, .int .u64 s1) :: (g1, 1, .int .u8 f1) :: (g1, 2, .bool false) :: []) (by repeat' (first | with_reducible assumption | with_reducible refine Env.drew ?_ | with_reducible refine Env.drewN ?_ _ | with_reducible refine Env.alloc ?_ _ | with_reducible refine Env.put ?_ (by omega) _ _))))).mono ?_
                    rintro e w1 ⟨rfl, hb1⟩
                    have hE1 : Env w B4 ((g4, 0, .int .u64 x) :: (g4, 1, .int .u8 0) :: (g4, 2, .bool false) :: (g3, 0, .int .u64 s3) :: (g3, 1, .int .u8 f3) :: (g3, 2, .bool false) :: (g2, 0, .int .u64 s2) :: (g2, 1, .int .u8 f2) :: (g2, 2, .bool false) :: (g1, 0, .int .u64 s1) :: (g1, 1, .int .u8 f1) :: (g1, 2, .bool false) :: []) w1 := Env.call (by repeat' (first | with_reducible assumption | with_reducible refine Env.drew ?_ | with_reducible refine Env.drewN ?_ _ | with_reducible refine Env.alloc ?_ _ | with_reducible refine Env.put ?_ (by omega) _ _)) hb1
                    have hz1 := hE1.size
                    go_wp2_with fail
                    go_meet
                    refine ⟨_, _, rfl, Env.add3 (B := B4) (by repeat' (first | with_reducible assumption | with_reducible refine Env.drew ?_ | with_reducible refine Env.drewN ?_ _ | with_reducible refine Env.alloc ?_ _ | with_reducible refine Env.put ?_ (by omega) _ _)) ?_ ?_ ?_⟩ <;> (go_simp; done)
                case rest =>
                  obtain ⟨g5, B5, rfl, hE5⟩ := hcut
                  clear hE4
                  go_upto_region 20 with (fail)
                  go_cut [14] (fun s wx => ∃ g6 B : Nat, s = .pointer (some ⟨g6, 0, none⟩) ∧ Env w B ((g6, 0, .int .u64 wn) :: (g6, 1, .int .u8 0) :: (g6, 2, .bool false) :: (g5, 0, .int .u64 s5) :: (g5, 1, .int .u8 f5) :: (g5, 2, .bool false) :: (g4, 0, .int .u64 x) :: (g4, 1, .int .u8 0) :: (g4, 2, .bool false) :: (g3, 0, .int .u64 s3) :: (g3, 1, .int .u8 f3) :: (g3, 2, .bool false) :: (g2, 0, .int .u64 s2) :: (g2, 1, .int .u8 f2) :: (g2, 2, .bool false) :: (g1, 0, .int .u64 s1) :: (g1, 1, .int .u8 f1) :: (g1, 2, .bool false) :: []) wx)
                  case first =>
                    as_aux_lemma =>
                      have hz0 := hE5.size
                      go_wp2_with (first | (go_at_call_of 13 (Value.int IntKind.i64 aa); refine (Waa.out _).mono ?_; rintro e w' ⟨rfl, rfl⟩))
                      refine (D6.out _ (hT.out.below (Nat.le_refl _) (Env.below (B := B5) (C := (g5, 0, .int .u64 s5) :: (g5, 1, .int .u8 f5) :: (g5, 2, .bool false) :: (g4, 0, .int .u64 x) :: (g4, 1, .int .u8 0) :: (g4, 2, .bool false) :: (g3, 0, .int .u64 s3) :: (g3, 1, .int .u8 f3) :: (g3, 2, .bool false) :: (g2, 0, .int .u64 s2) :: (g2, 1, .int .u8 f2) :: (g2, 2, .bool false) :: (g1, 0, .int .u64 s1) :: (g1, 1, .int .u8 f1) :: (g1, 2, .bool false) :: []) (by repeat' (first | with_reducible assumption | with_reducible refine Env.drew ?_ | with_reducible refine Env.drewN ?_ _ | with_reducible refine Env.alloc ?_ _ | with_reducible refine Env.put ?_ (by omega) _ _))))).mono ?_
                      rintro e w1 ⟨rfl, hb1⟩
                      have hE1 : Env w B5 ((g5, 0, .int .u64 s5) :: (g5, 1, .int .u8 f5) :: (g5, 2, .bool false) :: (g4, 0, .int .u64 x) :: (g4, 1, .int .u8 0) :: (g4, 2, .bool false) :: (g3, 0, .int .u64 s3) :: (g3, 1, .int .u8 f3) :: (g3, 2, .bool false) :: (g2, 0, .int .u64 s2) :: (g2, 1, .int .u8 f2) :: (g2, 2, .bool false) :: (g1, 0, .int .u64 s1) :: (g1, 1, .int .u8 f1) :: (g1, 2, .bool false) :: []) w1 := Env.call (by repeat' (first | with_reducible assumption | with_reducible refine Env.drew ?_ | with_reducible refine Env.drewN ?_ _ | with_reducible refine Env.alloc ?_ _ | with_reducible refine Env.put ?_ (by omega) _ _)) hb1
                      have hz1 := hE1.size
                      go_wp2_with fail
                      go_meet
                      refine ⟨_, _, rfl, Env.add3 (B := B5) (by repeat' (first | with_reducible assumption | with_reducible refine Env.drew ?_ | with_reducible refine Env.drewN ?_ _ | with_reducible refine Env.alloc ?_ _ | with_reducible refine Env.put ?_ (by omega) _ _)) ?_ ?_ ?_⟩ <;> (go_simp; done)
                  case rest =>
                    obtain ⟨g6, B6, rfl, hE6⟩ := hcut
                    clear hE5
                    go_upto_region 22 with (fail)
                    go_cut [16] (fun s wx => ∃ g7 B : Nat, s = .pointer (some ⟨g7, 0, none⟩) ∧ Env w B ((g7, 0, .int .u64 wk) :: (g7, 1, .int .u8 0) :: (g7, 2, .bool false) :: (g6, 0, .int .u64 wn) :: (g6, 1, .int .u8 0) :: (g6, 2, .bool false) :: (g5, 0, .int .u64 s5) :: (g5, 1, .int .u8 f5) :: (g5, 2, .bool false) :: (g4, 0, .int .u64 x) :: (g4, 1, .int .u8 0) :: (g4, 2, .bool false) :: (g3, 0, .int .u64 s3) :: (g3, 1, .int .u8 f3) :: (g3, 2, .bool false) :: (g2, 0, .int .u64 s2) :: (g2, 1, .int .u8 f2) :: (g2, 2, .bool false) :: (g1, 0, .int .u64 s1) :: (g1, 1, .int .u8 f1) :: (g1, 2, .bool false) :: []) wx)
                    case first =>
                      as_aux_lemma =>
                        have hz0 := hE6.size
                        go_wp2_with (first | (go_at_call_of 13 (Value.int IntKind.i64 kkk); refine (Wk3.out _).mono ?_; rintro e w' ⟨rfl, rfl⟩))
                        refine (D7.out _ (hT.out.below (Nat.le_refl _) (Env.below (B := B6) (C := (g6, 0, .int .u64 wn) :: (g6, 1, .int .u8 0) :: (g6, 2, .bool false) :: (g5, 0, .int .u64 s5) :: (g5, 1, .int .u8 f5) :: (g5, 2, .bool false) :: (g4, 0, .int .u64 x) :: (g4, 1, .int .u8 0) :: (g4, 2, .bool false) :: (g3, 0, .int .u64 s3) :: (g3, 1, .int .u8 f3) :: (g3, 2, .bool false) :: (g2, 0, .int .u64 s2) :: (g2, 1, .int .u8 f2) :: (g2, 2, .bool false) :: (g1, 0, .int .u64 s1) :: (g1, 1, .int .u8 f1) :: (g1, 2, .bool false) :: []) (by repeat' (first | with_reducible assumption | with_reducible refine Env.drew ?_ | with_reducible refine Env.drewN ?_ _ | with_reducible refine Env.alloc ?_ _ | with_reducible refine Env.put ?_ (by omega) _ _))))).mono ?_
                        rintro e w1 ⟨rfl, hb1⟩
                        have hE1 : Env w B6 ((g6, 0, .int .u64 wn) :: (g6, 1, .int .u8 0) :: (g6, 2, .bool false) :: (g5, 0, .int .u64 s5) :: (g5, 1, .int .u8 f5) :: (g5, 2, .bool false) :: (g4, 0, .int .u64 x) :: (g4, 1, .int .u8 0) :: (g4, 2, .bool false) :: (g3, 0, .int .u64 s3) :: (g3, 1, .int .u8 f3) :: (g3, 2, .bool false) :: (g2, 0, .int .u64 s2) :: (g2, 1, .int .u8 f2) :: (g2, 2, .bool false) :: (g1, 0, .int .u64 s1) :: (g1, 1, .int .u8 f1) :: (g1, 2, .bool false) :: []) w1 := Env.call (by repeat' (first | with_reducible assumption | with_reducible refine Env.drew ?_ | with_reducible refine Env.drewN ?_ _ | with_reducible refine Env.alloc ?_ _ | with_reducible refine Env.put ?_ (by omega) _ _)) hb1
                        have hz1 := hE1.size
                        go_wp2_with fail
                        go_meet
                        refine ⟨_, _, rfl, Env.add3 (B := B6) (by repeat' (first | with_reducible assumption | with_reducible refine Env.drew ?_ | with_reducible refine Env.drewN ?_ _ | with_reducible refine Env.alloc ?_ _ | with_reducible refine Env.put ?_ (by omega) _ _)) ?_ ?_ ?_⟩ <;> (go_simp; done)
                    case rest =>
                      obtain ⟨g7, B7, rfl, hE7⟩ := hcut
                      clear hE6
                      go_upto_region 23 with (fail)
                      go_cut [17] (fun s wx => ∃ g8 B : Nat, s = .pointer (some ⟨g8, 0, none⟩) ∧ Env w B ((g8, 0, .int .u64 b5) :: (g8, 1, .int .u8 0) :: (g8, 2, .bool false) :: (g7, 0, .int .u64 wk) :: (g7, 1, .int .u8 0) :: (g7, 2, .bool false) :: (g6, 0, .int .u64 wn) :: (g6, 1, .int .u8 0) :: (g6, 2, .bool false) :: (g5, 0, .int .u64 s5) :: (g5, 1, .int .u8 f5) :: (g5, 2, .bool false) :: (g4, 0, .int .u64 x) :: (g4, 1, .int .u8 0) :: (g4, 2, .bool false) :: (g3, 0, .int .u64 s3) :: (g3, 1, .int .u8 f3) :: (g3, 2, .bool false) :: (g2, 0, .int .u64 s2) :: (g2, 1, .int .u8 f2) :: (g2, 2, .bool false) :: (g1, 0, .int .u64 s1) :: (g1, 1, .int .u8 f1) :: (g1, 2, .bool false) :: []) wx)
                      case first =>
                        as_aux_lemma =>
                          have hz0 := hE7.size
                          go_wp2_with (first | (go_at_call_of 13 (Value.int IntKind.i64 v3); refine (Wh3.out _).mono ?_; rintro e w' ⟨rfl, rfl⟩) | (go_at_call_of 13 (Value.int IntKind.i64 v4); refine (Wh4.out _).mono ?_; rintro e w' ⟨rfl, rfl⟩))
                          refine (D8.out _ (hT.out.below (Nat.le_refl _) (Env.below (B := B7) (C := (g7, 0, .int .u64 wk) :: (g7, 1, .int .u8 0) :: (g7, 2, .bool false) :: (g6, 0, .int .u64 wn) :: (g6, 1, .int .u8 0) :: (g6, 2, .bool false) :: (g5, 0, .int .u64 s5) :: (g5, 1, .int .u8 f5) :: (g5, 2, .bool false) :: (g4, 0, .int .u64 x) :: (g4, 1, .int .u8 0) :: (g4, 2, .bool false) :: (g3, 0, .int .u64 s3) :: (g3, 1, .int .u8 f3) :: (g3, 2, .bool false) :: (g2, 0, .int .u64 s2) :: (g2, 1, .int .u8 f2) :: (g2, 2, .bool false) :: (g1, 0, .int .u64 s1) :: (g1, 1, .int .u8 f1) :: (g1, 2, .bool false) :: []) (by repeat' (first | with_reducible assumption | with_reducible refine Env.drew ?_ | with_reducible refine Env.drewN ?_ _ | with_reducible refine Env.alloc ?_ _ | with_reducible refine Env.put ?_ (by omega) _ _))))).mono ?_
                          rintro e w1 ⟨rfl, hb1⟩
                          have hE1 : Env w B7 ((g7, 0, .int .u64 wk) :: (g7, 1, .int .u8 0) :: (g7, 2, .bool false) :: (g6, 0, .int .u64 wn) :: (g6, 1, .int .u8 0) :: (g6, 2, .bool false) :: (g5, 0, .int .u64 s5) :: (g5, 1, .int .u8 f5) :: (g5, 2, .bool false) :: (g4, 0, .int .u64 x) :: (g4, 1, .int .u8 0) :: (g4, 2, .bool false) :: (g3, 0, .int .u64 s3) :: (g3, 1, .int .u8 f3) :: (g3, 2, .bool false) :: (g2, 0, .int .u64 s2) :: (g2, 1, .int .u8 f2) :: (g2, 2, .bool false) :: (g1, 0, .int .u64 s1) :: (g1, 1, .int .u8 f1) :: (g1, 2, .bool false) :: []) w1 := Env.call (by repeat' (first | with_reducible assumption | with_reducible refine Env.drew ?_ | with_reducible refine Env.drewN ?_ _ | with_reducible refine Env.alloc ?_ _ | with_reducible refine Env.put ?_ (by omega) _ _)) hb1
                          have hz1 := hE1.size
                          go_wp2_with fail
                          go_meet
                          refine ⟨_, _, rfl, Env.add3 (B := B7) (by repeat' (first | with_reducible assumption | with_reducible refine Env.drew ?_ | with_reducible refine Env.drewN ?_ _ | with_reducible refine Env.alloc ?_ _ | with_reducible refine Env.put ?_ (by omega) _ _)) ?_ ?_ ?_⟩ <;> (go_simp; done)
                      case rest =>
                        obtain ⟨g8, B8, rfl, hE8⟩ := hcut
                        clear hE7
                        go_upto_if 153 with (fail)
                        go_cut [18] (fun s wx => s = .int .i64 nn ∧ Env w B8 ((g8, 0, .int .u64 b5) :: (g8, 1, .int .u8 0) :: (g8, 2, .bool false) :: (g7, 0, .int .u64 wk) :: (g7, 1, .int .u8 0) :: (g7, 2, .bool false) :: (g6, 0, .int .u64 wn) :: (g6, 1, .int .u8 0) :: (g6, 2, .bool false) :: (g5, 0, .int .u64 s5) :: (g5, 1, .int .u8 f5) :: (g5, 2, .bool false) :: (g4, 0, .int .u64 x) :: (g4, 1, .int .u8 0) :: (g4, 2, .bool false) :: (g3, 0, .int .u64 s3) :: (g3, 1, .int .u8 f3) :: (g3, 2, .bool false) :: (g2, 0, .int .u64 s2) :: (g2, 1, .int .u8 f2) :: (g2, 2, .bool false) :: (g1, 0, .int .u64 s1) :: (g1, 1, .int .u8 f1) :: (g1, 2, .bool false) :: []) wx)
                        case first =>
                          as_aux_lemma =>
                            rcases hn with ⟨q0, q3, q1, q2⟩ | ⟨q0, q3, q1, q2⟩
                            · go_wp2_with fail
                              go_meet
                              exact ⟨congrArg _ q2, by repeat' (first | with_reducible assumption | with_reducible refine Env.drew ?_ | with_reducible refine Env.drewN ?_ _ | with_reducible refine Env.alloc ?_ _ | with_reducible refine Env.put ?_ (by omega) _ _)⟩
                            · subst q2
                              go_wp2_with fail
                              go_meet
                              exact ⟨rfl, by repeat' (first | with_reducible assumption | with_reducible refine Env.drew ?_ | with_reducible refine Env.drewN ?_ _ | with_reducible refine Env.alloc ?_ _ | with_reducible refine Env.put ?_ (by omega) _ _)⟩
                        case rest =>
                          obtain ⟨rfl, hE9⟩ := hcut
                          clear hE8 hn
                          have hE8 := hE9
                          clear hE9
                          go_upto_region 27 with (fail)
                          go_cut [19] (fun s wx => s = .bool true ∧ Env w B8 ((g8, 0, .int .u64 b5) :: (g8, 1, .int .u8 0) :: (g8, 2, .bool false) :: (g7, 0, .int .u64 wk) :: (g7, 1, .int .u8 0) :: (g7, 2, .bool false) :: (g6, 0, .int .u64 wn) :: (g6, 1, .int .u8 0) :: (g6, 2, .bool false) :: (g5, 0, .int .u64 s5) :: (g5, 1, .int .u8 f5) :: (g5, 2, .bool false) :: (g4, 0, .int .u64 x) :: (g4, 1, .int .u8 0) :: (g4, 2, .bool false) :: (g3, 0, .int .u64 s3) :: (g3, 1, .int .u8 f3) :: (g3, 2, .bool false) :: (g2, 0, .int .u64 s2) :: (g2, 1, .int .u8 f2) :: (g2, 2, .bool false) :: (g1, 0, .int .u64 s1) :: (g1, 1, .int .u8 f1) :: (g1, 2, .bool false) :: []) wx)
                          case first =>
                            as_aux_lemma =>
                              have c4_0 := hE8.get (b := g4) (i := 0) (v := .int .u64 x) (by simp)
                              have c4_1 := hE8.get (b := g4) (i := 1) (v := .int .u8 0) (by simp)
                              have c4_2 := hE8.get (b := g4) (i := 2) (v := .bool false) (by simp)
                              go_wp2_with fail
                              go_meet
                              exact ⟨rfl, by repeat' (first | with_reducible assumption | with_reducible refine Env.drew ?_ | with_reducible refine Env.drewN ?_ _ | with_reducible refine Env.alloc ?_ _ | with_reducible refine Env.put ?_ (by omega) _ _)⟩
                          case rest =>
                            obtain ⟨rfl, hE9⟩ := hcut
                            clear hE8
                            have hE8 := hE9
                            clear hE9
                            go_upto_region 28 with (fail)
                            go_cut [20] (fun s wx => s = .bool true ∧ Env w B8 ((g8, 0, .int .u64 b5) :: (g8, 1, .int .u8 0) :: (g8, 2, .bool false) :: (g7, 0, .int .u64 wk) :: (g7, 1, .int .u8 0) :: (g7, 2, .bool false) :: (g6, 0, .int .u64 wn) :: (g6, 1, .int .u8 0) :: (g6, 2, .bool false) :: (g5, 0, .int .u64 s5) :: (g5, 1, .int .u8 f5) :: (g5, 2, .bool false) :: (g4, 0, .int .u64 x) :: (g4, 1, .int .u8 0) :: (g4, 2, .bool false) :: (g3, 0, .int .u64 s3) :: (g3, 1, .int .u8 f3) :: (g3, 2, .bool false) :: (g2, 0, .int .u64 s2) :: (g2, 1, .int .u8 f2) :: (g2, 2, .bool false) :: (g1, 0, .int .u64 s1) :: (g1, 1, .int .u8 f1) :: (g1, 2, .bool false) :: []) wx)
                            case first =>
                              as_aux_lemma =>
                                have c5_0 := hE8.get (b := g5) (i := 0) (v := .int .u64 s5) (by simp)
                                have c5_1 := hE8.get (b := g5) (i := 1) (v := .int .u8 f5) (by simp)
                                have c5_2 := hE8.get (b := g5) (i := 2) (v := .bool false) (by simp)
                                rcases hF with rfl | ⟨n1, n2, n3, rfl, rfl⟩
                                all_goals
                                  go_big_quiet (first | (go_at_call_of 13 (Value.int IntKind.i64 fv); exact Calls.quiet_of_same (Wf.out _)) | fail)
                                  go_wp2_with fail
                                  go_meet
                                  exact ⟨rfl, by repeat' (first | with_reducible assumption | with_reducible refine Env.drew ?_ | with_reducible refine Env.drewN ?_ _ | with_reducible refine Env.alloc ?_ _ | with_reducible refine Env.put ?_ (by omega) _ _)⟩
                            case rest =>
                              obtain ⟨rfl, hE9⟩ := hcut
                              clear hE8
                              have hE8 := hE9
                              clear hE9
                              go_upto_region 29 with (fail)
                              go_cut [21] (fun s wx => s = .bool true ∧ Env w B8 ((g8, 0, .int .u64 b5) :: (g8, 1, .int .u8 0) :: (g8, 2, .bool false) :: (g7, 0, .int .u64 wk) :: (g7, 1, .int .u8 0) :: (g7, 2, .bool false) :: (g6, 0, .int .u64 wn) :: (g6, 1, .int .u8 0) :: (g6, 2, .bool false) :: (g5, 0, .int .u64 s5) :: (g5, 1, .int .u8 f5) :: (g5, 2, .bool false) :: (g4, 0, .int .u64 x) :: (g4, 1, .int .u8 0) :: (g4, 2, .bool false) :: (g3, 0, .int .u64 s3) :: (g3, 1, .int .u8 f3) :: (g3, 2, .bool false) :: (g2, 0, .int .u64 s2) :: (g2, 1, .int .u8 f2) :: (g2, 2, .bool false) :: (g1, 0, .int .u64 s1) :: (g1, 1, .int .u8 f1) :: (g1, 2, .bool false) :: []) wx)
                              case first =>
                                as_aux_lemma =>
                                  have c6_0 := hE8.get (b := g6) (i := 0) (v := .int .u64 wn) (by simp)
                                  have c6_1 := hE8.get (b := g6) (i := 1) (v := .int .u8 0) (by simp)
                                  have c6_2 := hE8.get (b := g6) (i := 2) (v := .bool false) (by simp)
                                  go_big_quiet (first | (go_at_call_of 13 (Value.int IntKind.i64 nn); exact Calls.quiet_of_same (Wn.out _)) | fail)
                                  go_wp2_with fail
                                  go_meet
                                  exact ⟨rfl, by repeat' (first | with_reducible assumption | with_reducible refine Env.drew ?_ | with_reducible refine Env.drewN ?_ _ | with_reducible refine Env.alloc ?_ _ | with_reducible refine Env.put ?_ (by omega) _ _)⟩
                              case rest =>
                                obtain ⟨rfl, hE9⟩ := hcut
                                clear hE8
                                have hE8 := hE9
                                clear hE9
                                go_upto_region 30 with (fail)
                                go_cut [22] (fun s wx => s = .bool true ∧ Env w B8 ((g8, 0, .int .u64 b5) :: (g8, 1, .int .u8 0) :: (g8, 2, .bool false) :: (g7, 0, .int .u64 wk) :: (g7, 1, .int .u8 0) :: (g7, 2, .bool false) :: (g6, 0, .int .u64 wn) :: (g6, 1, .int .u8 0) :: (g6, 2, .bool false) :: (g5, 0, .int .u64 s5) :: (g5, 1, .int .u8 f5) :: (g5, 2, .bool false) :: (g4, 0, .int .u64 x) :: (g4, 1, .int .u8 0) :: (g4, 2, .bool false) :: (g3, 0, .int .u64 s3) :: (g3, 1, .int .u8 f3) :: (g3, 2, .bool false) :: (g2, 0, .int .u64 s2) :: (g2, 1, .int .u8 f2) :: (g2, 2, .bool false) :: (g1, 0, .int .u64 s1) :: (g1, 1, .int .u8 f1) :: (g1, 2, .bool false) :: []) wx)
                                case first =>
                                  as_aux_lemma =>
                                    have c7_0 := hE8.get (b := g7) (i := 0) (v := .int .u64 wk) (by simp)
                                    have c7_1 := hE8.get (b := g7) (i := 1) (v := .int .u8 0) (by simp)
                                    have c7_2 := hE8.get (b := g7) (i := 2) (v := .bool false) (by simp)
                                    go_big_quiet (first | (go_at_call_of 13 (Value.int IntKind.i64 k); exact Calls.quiet_of_same (Wk.out _)) | fail)
                                    go_wp2_with fail
                                    go_meet
                                    exact ⟨rfl, by repeat' (first | with_reducible assumption | with_reducible refine Env.drew ?_ | with_reducible refine Env.drewN ?_ _ | with_reducible refine Env.alloc ?_ _ | with_reducible refine Env.put ?_ (by omega) _ _)⟩
                                case rest =>
                                  obtain ⟨rfl, hE9⟩ := hcut
                                  clear hE8
                                  have hE8 := hE9
                                  clear hE9
                                  go_upto_region 31 with (fail)
                                  go_cut [23] (fun s wx => s = .bool true ∧ Env w B8 ((g8, 0, .int .u64 b5) :: (g8, 1, .int .u8 0) :: (g8, 2, .bool false) :: (g7, 0, .int .u64 wk) :: (g7, 1, .int .u8 0) :: (g7, 2, .bool false) :: (g6, 0, .int .u64 wn) :: (g6, 1, .int .u8 0) :: (g6, 2, .bool false) :: (g5, 0, .int .u64 s5) :: (g5, 1, .int .u8 f5) :: (g5, 2, .bool false) :: (g4, 0, .int .u64 x) :: (g4, 1, .int .u8 0) :: (g4, 2, .bool false) :: (g3, 0, .int .u64 s3) :: (g3, 1, .int .u8 f3) :: (g3, 2, .bool false) :: (g2, 0, .int .u64 s2) :: (g2, 1, .int .u8 f2) :: (g2, 2, .bool false) :: (g1, 0, .int .u64 s1) :: (g1, 1, .int .u8 f1) :: (g1, 2, .bool false) :: []) wx)
                                  case first =>
                                    as_aux_lemma =>
                                      have c8_0 := hE8.get (b := g8) (i := 0) (v := .int .u64 b5) (by simp)
                                      have c8_1 := hE8.get (b := g8) (i := 1) (v := .int .u8 0) (by simp)
                                      have c8_2 := hE8.get (b := g8) (i := 2) (v := .bool false) (by simp)
                                      go_big_quiet (first | (go_at_call_of 13 (Value.int IntKind.i64 v5); exact Calls.quiet_of_same (Wh5.out _)) | fail)
                                      go_wp2_with fail
                                      go_meet
                                      exact ⟨rfl, by repeat' (first | with_reducible assumption | with_reducible refine Env.drew ?_ | with_reducible refine Env.drewN ?_ _ | with_reducible refine Env.alloc ?_ _ | with_reducible refine Env.put ?_ (by omega) _ _)⟩
                                  case rest =>
                                    obtain ⟨rfl, hE9⟩ := hcut
                                    clear hE8
                                    have hE8 := hE9
                                    clear hE9
                                    go_wp2_with fail
                                    go_ret
                                    exact ⟨rfl, hE8.below⟩
end Go.Proofs.YtldmbneckcjonabDoor
