/- Several texts in one: soft.hypot. · Plain: what the root of a sum of two squares gives. No program in sight; each lemma states its own conditions. · soft.hypot, whole. -/
import Derived.Test.YtldmbneckcjonabDoorGR
import Derived.Test.YtldmbneckcjonabDoorGL
import Derived.Test.YtldmbneckcjonabDoorGZ
set_option linter.unusedVariables false
set_option linter.unusedSimpArgs false
namespace Go.Proofs.YtldmbneckcjonabDoor
open Go.RowKit
attribute [local go_sem] two_run
set_option maxRecDepth 100000 in
set_option maxHeartbeats 1000000 in
theorem hypot_inf1 (op m a b c kb : Nat) (Ka : Hid (∀ W, Calls Tryd.prog 15 #[.int .u64 a] W fun e w' => e = .returned (.int .i64 3) ∧ W = w')) (Kb : Hid (∀ W, Calls Tryd.prog 15 #[.int .u64 b] W fun e w' => e = .returned (.int .i64 (kb : Int)) ∧ W = w')) (w : World) :
    Calls Tryd.prog 41 #[REC op m a b c] w (SoftOut 9218868437227405312 0 false w) := by
  go_enter Tryd.func41, Tryd.ntmps41
  go_upto_region 2 with (fail)
  go_cut [3] (fun s wx => s = .pointer (some ⟨w.heap.size + 1 + 1, 0, none⟩) ∧ (((w.alloc (.cells #[.int .u8 op, .int .u8 m, .int .u64 a, .int .u64 b, .int .u64 c] 36)).alloc (.cells #[.int .u64 0, .int .u8 0, .bool false] 33)).alloc (.cells #[.int .i64 3, .int .i64 (kb : Int)] 53)).drew = wx)
  case first =>
    go_region_held3 (fun w' => (w'.cell? ⟨w.heap.size, 2, none⟩ = some (.int .u64 a) ∧ w'.cell? ⟨w.heap.size, 3, none⟩ = some (.int .u64 b)))
      (first
        | (refine ⟨?_, ?_⟩ <;> (go_simp; done))
        | go_keep)
      (first
        | (go_at_call_of 15 (Value.int IntKind.u64 a); refine (Ka.out _).mono ?_; rintro e w' ⟨rfl, rfl⟩)
        | (go_at_call_of 15 (Value.int IntKind.u64 b); refine (Kb.out _).mono ?_; rintro e w' ⟨rfl, rfl⟩))
    all_goals (go_wp2_with fail; go_meet; exact ⟨rfl, rfl⟩)
  case rest =>
    obtain ⟨rfl, rfl⟩ := hcut
    go_wp2_with fail
    all_goals refine bodyPost_ret (v := RES1 9218868437227405312 0 false) (by simp [results, Tryd.results41, go_sem, *]) rfl ⟨rfl, ?_⟩
    repeat' (first | with_reducible exact Below.refl _ _ | with_reducible assumption | with_reducible refine Below.drew ?_ | with_reducible refine bdrewN ?_ _ | with_reducible refine Below.alloc ?_ ?_ _ | with_reducible refine Below.setCell ?_ ?_ _ | with_reducible refine Below.trans ?_ (Below.mono (by assumption) ?_) | omega | (simp; done) | (simp; omega))
set_option maxRecDepth 100000 in
set_option maxHeartbeats 1000000 in
theorem hypot_inf2 (op m a b c ka : Nat) (Ka : Hid (∀ W, Calls Tryd.prog 15 #[.int .u64 a] W fun e w' => e = .returned (.int .i64 (ka : Int)) ∧ W = w')) (Kb : Hid (∀ W, Calls Tryd.prog 15 #[.int .u64 b] W fun e w' => e = .returned (.int .i64 3) ∧ W = w')) (hka3 : ((ka : Int) == 3) = false) (w : World) :
    Calls Tryd.prog 41 #[REC op m a b c] w (SoftOut 9218868437227405312 0 false w) := by
  go_enter Tryd.func41, Tryd.ntmps41
  go_upto_region 2 with (fail)
  go_cut [3] (fun s wx => s = .pointer (some ⟨w.heap.size + 1 + 1, 0, none⟩) ∧ (((w.alloc (.cells #[.int .u8 op, .int .u8 m, .int .u64 a, .int .u64 b, .int .u64 c] 36)).alloc (.cells #[.int .u64 0, .int .u8 0, .bool false] 33)).alloc (.cells #[.int .i64 (ka : Int), .int .i64 3] 53)).drew = wx)
  case first =>
    go_region_held3 (fun w' => (w'.cell? ⟨w.heap.size, 2, none⟩ = some (.int .u64 a) ∧ w'.cell? ⟨w.heap.size, 3, none⟩ = some (.int .u64 b)))
      (first
        | (refine ⟨?_, ?_⟩ <;> (go_simp; done))
        | go_keep)
      (first
        | (go_at_call_of 15 (Value.int IntKind.u64 a); refine (Ka.out _).mono ?_; rintro e w' ⟨rfl, rfl⟩)
        | (go_at_call_of 15 (Value.int IntKind.u64 b); refine (Kb.out _).mono ?_; rintro e w' ⟨rfl, rfl⟩))
    all_goals (go_wp2_with fail; go_meet; exact ⟨rfl, rfl⟩)
  case rest =>
    obtain ⟨rfl, rfl⟩ := hcut
    go_wp2_with fail
    all_goals refine bodyPost_ret (v := RES1 9218868437227405312 0 false) (by simp [results, Tryd.results41, go_sem, *]) rfl ⟨rfl, ?_⟩
    repeat' (first | with_reducible exact Below.refl _ _ | with_reducible assumption | with_reducible refine Below.drew ?_ | with_reducible refine bdrewN ?_ _ | with_reducible refine Below.alloc ?_ ?_ _ | with_reducible refine Below.setCell ?_ ?_ _ | with_reducible refine Below.trans ?_ (Below.mono (by assumption) ?_) | omega | (simp; done) | (simp; omega))
set_option maxRecDepth 100000 in
set_option maxHeartbeats 1000000 in
theorem hypot_zz (op m a b c : Nat) (Ka : Hid (∀ W, Calls Tryd.prog 15 #[.int .u64 a] W fun e w' => e = .returned (.int .i64 0) ∧ W = w')) (Kb : Hid (∀ W, Calls Tryd.prog 15 #[.int .u64 b] W fun e w' => e = .returned (.int .i64 0) ∧ W = w')) (w : World) :
    Calls Tryd.prog 41 #[REC op m a b c] w (SoftOut 0 0 false w) := by
  go_enter Tryd.func41, Tryd.ntmps41
  go_upto_region 2 with (fail)
  go_cut [3] (fun s wx => s = .pointer (some ⟨w.heap.size + 1 + 1, 0, none⟩) ∧ (((w.alloc (.cells #[.int .u8 op, .int .u8 m, .int .u64 a, .int .u64 b, .int .u64 c] 36)).alloc (.cells #[.int .u64 0, .int .u8 0, .bool false] 33)).alloc (.cells #[.int .i64 0, .int .i64 0] 53)).drew = wx)
  case first =>
    go_region_held3 (fun w' => (w'.cell? ⟨w.heap.size, 2, none⟩ = some (.int .u64 a) ∧ w'.cell? ⟨w.heap.size, 3, none⟩ = some (.int .u64 b)))
      (first
        | (refine ⟨?_, ?_⟩ <;> (go_simp; done))
        | go_keep)
      (first
        | (go_at_call_of 15 (Value.int IntKind.u64 a); refine (Ka.out _).mono ?_; rintro e w' ⟨rfl, rfl⟩)
        | (go_at_call_of 15 (Value.int IntKind.u64 b); refine (Kb.out _).mono ?_; rintro e w' ⟨rfl, rfl⟩))
    all_goals (go_wp2_with fail; go_meet; exact ⟨rfl, rfl⟩)
  case rest =>
    obtain ⟨rfl, rfl⟩ := hcut
    go_wp2_with fail
    all_goals refine bodyPost_ret (v := RES1 0 0 false) (by simp [results, Tryd.results41, go_sem, *]) rfl ⟨rfl, ?_⟩
    repeat' (first | with_reducible exact Below.refl _ _ | with_reducible assumption | with_reducible refine Below.drew ?_ | with_reducible refine bdrewN ?_ _ | with_reducible refine Below.alloc ?_ ?_ _ | with_reducible refine Below.setCell ?_ ?_ _ | with_reducible refine Below.trans ?_ (Below.mono (by assumption) ?_) | omega | (simp; done) | (simp; omega))
theorem s_put3 {w W : World} {g5 g6 B m a b c : Nat} {na nb : Bool} {ea eb : Int} {sa sb : Nat} (h : ((W.cell? ⟨w.heap.size, 1, none⟩ = some (.int .u8 m) ∧ W.cell? ⟨w.heap.size, 2, none⟩ = some (.int .u64 a) ∧ W.cell? ⟨w.heap.size, 3, none⟩ = some (.int .u64 b) ∧ W.cell? ⟨w.heap.size, 4, none⟩ = some (.int .u64 c)) ∧ (W.cell? ⟨g5, 0, none⟩ = some (Value.bool (na)) ∧ W.cell? ⟨g5, 1, none⟩ = some (Value.int .i64 (ea)) ∧ W.cell? ⟨g5, 2, none⟩ = some (Value.int .u64 (wd 0 (sa))) ∧ W.cell? ⟨g5, 3, none⟩ = some (Value.int .u64 (wd 1 (sa))) ∧ W.cell? ⟨g5, 4, none⟩ = some (Value.int .u64 (wd 2 (sa))) ∧ W.cell? ⟨g5, 5, none⟩ = some (Value.int .u64 (wd 3 (sa))) ∧ W.cell? ⟨g5, 6, none⟩ = some (Value.bool (false))) ∧ (W.cell? ⟨g6, 0, none⟩ = some (Value.bool (nb)) ∧ W.cell? ⟨g6, 1, none⟩ = some (Value.int .i64 (eb)) ∧ W.cell? ⟨g6, 2, none⟩ = some (Value.int .u64 (wd 0 (sb))) ∧ W.cell? ⟨g6, 3, none⟩ = some (Value.int .u64 (wd 1 (sb))) ∧ W.cell? ⟨g6, 4, none⟩ = some (Value.int .u64 (wd 2 (sb))) ∧ W.cell? ⟨g6, 5, none⟩ = some (Value.int .u64 (wd 3 (sb))) ∧ W.cell? ⟨g6, 6, none⟩ = some (Value.bool (false))))) (h1 : B ≠ w.heap.size) (h2 : B ≠ g5) (h3 : B ≠ g6) (v0 v1 v2 : Value) : (((((W.setCell ⟨B, 0, none⟩ v0).setCell ⟨B, 1, none⟩ v1).setCell ⟨B, 2, none⟩ v2).cell? ⟨w.heap.size, 1, none⟩ = some (.int .u8 m) ∧ (((W.setCell ⟨B, 0, none⟩ v0).setCell ⟨B, 1, none⟩ v1).setCell ⟨B, 2, none⟩ v2).cell? ⟨w.heap.size, 2, none⟩ = some (.int .u64 a) ∧ (((W.setCell ⟨B, 0, none⟩ v0).setCell ⟨B, 1, none⟩ v1).setCell ⟨B, 2, none⟩ v2).cell? ⟨w.heap.size, 3, none⟩ = some (.int .u64 b) ∧ (((W.setCell ⟨B, 0, none⟩ v0).setCell ⟨B, 1, none⟩ v1).setCell ⟨B, 2, none⟩ v2).cell? ⟨w.heap.size, 4, none⟩ = some (.int .u64 c)) ∧ ((((W.setCell ⟨B, 0, none⟩ v0).setCell ⟨B, 1, none⟩ v1).setCell ⟨B, 2, none⟩ v2).cell? ⟨g5, 0, none⟩ = some (Value.bool (na)) ∧ (((W.setCell ⟨B, 0, none⟩ v0).setCell ⟨B, 1, none⟩ v1).setCell ⟨B, 2, none⟩ v2).cell? ⟨g5, 1, none⟩ = some (Value.int .i64 (ea)) ∧ (((W.setCell ⟨B, 0, none⟩ v0).setCell ⟨B, 1, none⟩ v1).setCell ⟨B, 2, none⟩ v2).cell? ⟨g5, 2, none⟩ = some (Value.int .u64 (wd 0 (sa))) ∧ (((W.setCell ⟨B, 0, none⟩ v0).setCell ⟨B, 1, none⟩ v1).setCell ⟨B, 2, none⟩ v2).cell? ⟨g5, 3, none⟩ = some (Value.int .u64 (wd 1 (sa))) ∧ (((W.setCell ⟨B, 0, none⟩ v0).setCell ⟨B, 1, none⟩ v1).setCell ⟨B, 2, none⟩ v2).cell? ⟨g5, 4, none⟩ = some (Value.int .u64 (wd 2 (sa))) ∧ (((W.setCell ⟨B, 0, none⟩ v0).setCell ⟨B, 1, none⟩ v1).setCell ⟨B, 2, none⟩ v2).cell? ⟨g5, 5, none⟩ = some (Value.int .u64 (wd 3 (sa))) ∧ (((W.setCell ⟨B, 0, none⟩ v0).setCell ⟨B, 1, none⟩ v1).setCell ⟨B, 2, none⟩ v2).cell? ⟨g5, 6, none⟩ = some (Value.bool (false))) ∧ ((((W.setCell ⟨B, 0, none⟩ v0).setCell ⟨B, 1, none⟩ v1).setCell ⟨B, 2, none⟩ v2).cell? ⟨g6, 0, none⟩ = some (Value.bool (nb)) ∧ (((W.setCell ⟨B, 0, none⟩ v0).setCell ⟨B, 1, none⟩ v1).setCell ⟨B, 2, none⟩ v2).cell? ⟨g6, 1, none⟩ = some (Value.int .i64 (eb)) ∧ (((W.setCell ⟨B, 0, none⟩ v0).setCell ⟨B, 1, none⟩ v1).setCell ⟨B, 2, none⟩ v2).cell? ⟨g6, 2, none⟩ = some (Value.int .u64 (wd 0 (sb))) ∧ (((W.setCell ⟨B, 0, none⟩ v0).setCell ⟨B, 1, none⟩ v1).setCell ⟨B, 2, none⟩ v2).cell? ⟨g6, 3, none⟩ = some (Value.int .u64 (wd 1 (sb))) ∧ (((W.setCell ⟨B, 0, none⟩ v0).setCell ⟨B, 1, none⟩ v1).setCell ⟨B, 2, none⟩ v2).cell? ⟨g6, 4, none⟩ = some (Value.int .u64 (wd 2 (sb))) ∧ (((W.setCell ⟨B, 0, none⟩ v0).setCell ⟨B, 1, none⟩ v1).setCell ⟨B, 2, none⟩ v2).cell? ⟨g6, 5, none⟩ = some (Value.int .u64 (wd 3 (sb))) ∧ (((W.setCell ⟨B, 0, none⟩ v0).setCell ⟨B, 1, none⟩ v1).setCell ⟨B, 2, none⟩ v2).cell? ⟨g6, 6, none⟩ = some (Value.bool (false)))) := by
  obtain ⟨⟨a1, a2, a3, a4⟩, ⟨b0, b1, b2, b3, b4, b5, b6⟩, c0, c1, c2, c3, c4, c5, c6⟩ := h
  exact ⟨⟨cell_put3 a1 h1 _ _ _, cell_put3 a2 h1 _ _ _, cell_put3 a3 h1 _ _ _, cell_put3 a4 h1 _ _ _⟩, ⟨cell_put3 b0 h2 _ _ _, cell_put3 b1 h2 _ _ _, cell_put3 b2 h2 _ _ _, cell_put3 b3 h2 _ _ _, cell_put3 b4 h2 _ _ _, cell_put3 b5 h2 _ _ _, cell_put3 b6 h2 _ _ _⟩, cell_put3 c0 h3 _ _ _, cell_put3 c1 h3 _ _ _, cell_put3 c2 h3 _ _ _, cell_put3 c3 h3 _ _ _, cell_put3 c4 h3 _ _ _, cell_put3 c5 h3 _ _ _, cell_put3 c6 h3 _ _ _⟩
set_option maxRecDepth 100000 in
set_option maxHeartbeats 4000000 in
theorem hypot_go1 (op m a b c ka kb : Nat) (Ka : Hid (∀ W, Calls Tryd.prog 15 #[.int .u64 a] W fun e w' => e = .returned (.int .i64 (ka : Int)) ∧ W = w')) (Kb : Hid (∀ W, Calls Tryd.prog 15 #[.int .u64 b] W fun e w' => e = .returned (.int .i64 (kb : Int)) ∧ W = w')) (na nb np lp l : Bool) (ea eb fa fb ep h : Int) (sa sb ta tb sp r bt fl : Nat) (Ua : Hid (∀ W, Calls Tryd.prog 44 #[.int .u64 a] W fun e w' => e = .returned (NV na ea sa false) ∧ Below W.heap.size W w')) (Ub : Hid (∀ W, Calls Tryd.prog 44 #[.int .u64 b] W fun e w' => e = .returned (NV nb eb sb false) ∧ Below W.heap.size W w')) (Ta : Hid (∀ W, Calls Tryd.prog 45 #[NV na ea sa false, NV na ea sa false] W fun e w' => e = .returned (NV false fa ta false) ∧ Below W.heap.size W w')) (Tb : Hid (∀ W, Calls Tryd.prog 45 #[NV nb eb sb false, NV nb eb sb false] W fun e w' => e = .returned (NV false fb tb false) ∧ Below W.heap.size W w')) (PL : Hid (∀ W, Calls Tryd.prog 51 #[NV false fa ta false, NV false fb tb false] W fun e w' => e = .returned (NV np ep sp lp) ∧ Below W.heap.size W w'))
    (Ro : Hid (∀ W, Calls Tryd.prog 49 #[NV np ep sp lp] W fun e w' => e = .returned (NV false h r l) ∧ Below W.heap.size W w')) (R : Hid (∀ W, Calls Tryd.prog 46 #[NV false h r l, .int .u8 m] W (SoftOut bt fl false W))) (hka0 : ((ka : Int) == 0) = false) (hka3 : ((ka : Int) == 3) = false) (hkb3 : ((kb : Int) == 3) = false) (w : World) :
    Calls Tryd.prog 41 #[REC op m a b c] w (SoftOut bt fl false w) := by
  go_enter Tryd.func41, Tryd.ntmps41
  go_upto_region 2 with (fail)
  go_cut [3] (fun s wx => s = .pointer (some ⟨w.heap.size + 1 + 1, 0, none⟩) ∧ (((w.alloc (.cells #[.int .u8 op, .int .u8 m, .int .u64 a, .int .u64 b, .int .u64 c] 36)).alloc (.cells #[.int .u64 0, .int .u8 0, .bool false] 33)).alloc (.cells #[.int .i64 (ka : Int), .int .i64 (kb : Int)] 53)).drew = wx)
  case first =>
    go_region_held3 (fun w' => (w'.cell? ⟨w.heap.size, 2, none⟩ = some (.int .u64 a) ∧ w'.cell? ⟨w.heap.size, 3, none⟩ = some (.int .u64 b)))
      (first
        | (refine ⟨?_, ?_⟩ <;> (go_simp; done))
        | go_keep)
      (first
        | (go_at_call_of 15 (Value.int IntKind.u64 a); refine (Ka.out _).mono ?_; rintro e w' ⟨rfl, rfl⟩)
        | (go_at_call_of 15 (Value.int IntKind.u64 b); refine (Kb.out _).mono ?_; rintro e w' ⟨rfl, rfl⟩))
    all_goals (go_wp2_with fail; go_meet; exact ⟨rfl, rfl⟩)
  case rest =>
    obtain ⟨rfl, rfl⟩ := hcut
    have hK_1 : RB w m a b c (((w.alloc (.cells #[.int .u8 op, .int .u8 m, .int .u64 a, .int .u64 b, .int .u64 c] 36)).alloc (.cells #[.int .u64 0, .int .u8 0, .bool false] 33)).alloc (.cells #[.int .i64 (ka : Int), .int .i64 kb] 53)) := ((RB.start op).alloc _)
    have hK_0 : RB w m a b c (((w.alloc (.cells #[.int .u8 op, .int .u8 m, .int .u64 a, .int .u64 b, .int .u64 c] 36)).alloc (.cells #[.int .u64 0, .int .u8 0, .bool false] 33)).alloc (.cells #[.int .i64 (ka : Int), .int .i64 kb] 53)).drew := ((RB.start op).alloc _).drew
    go_upto_region 6 with (fail)
    go_cut [4, 5] (fun s5 s6 wx => ∃ g5 g6 : Nat, s5 = .pointer (some ⟨g5, 0, none⟩) ∧ s6 = .pointer (some ⟨g6, 0, none⟩) ∧ NB wx g5 na ea sa false ∧ NB wx g6 nb eb sb false ∧ RB w m a b c wx)
    case first =>
      go_region_held3 (fun w' => (w'.cell? ⟨w.heap.size, 1, none⟩ = some (.int .u8 m) ∧ w'.cell? ⟨w.heap.size, 2, none⟩ = some (.int .u64 a) ∧ w'.cell? ⟨w.heap.size, 3, none⟩ = some (.int .u64 b) ∧ w'.cell? ⟨w.heap.size, 4, none⟩ = some (.int .u64 c)))
        (first
          | with_reducible exact hS_w2
          | with_reducible exact hS_w1
          | with_reducible exact hK_0.1
          | (refine ⟨?_, ?_, ?_, ?_⟩ <;> (go_simp; done))
          | go_keep)
        (first
          | (go_at_call_of 44 (Value.int IntKind.u64 a); refine (Ua.out _).mono ?_; rintro e w1 ⟨rfl, hb1⟩; have hK_w1 : RB w m a b c w1 := RB.step (by (repeat' (first | with_reducible assumption | refine RB.drew ?_ | refine RB.alloc ?_ _))) hb1; have hL_w1 := hK_w1; obtain ⟨hS_w1, ⟨hk0_w1, hk1_w1, hk2_w1⟩, ⟨hg0_w1, hg1_w1, hg2_w1⟩, _⟩ := hL_w1; have hz_w1 := hb1.size; (try simp at hz_w1); have ho_w1 : w.heap.size + 1 < w1.heap.size := (by omega); have hp_w1 : w.heap.size < w1.heap.size := (by omega); (try ((first | have za_w1 := NB.call (NB.zeroD) hb1 | have za_w1 := NB.call (NB.drew (NB.zeroD)) hb1 | have za_w1 := NB.call (NB.drew (NB.drew (NB.zeroD))) hb1); (try simp at za_w1); have hl_za_w1 := za_w1.lt; have za_w1k := za_w1; obtain ⟨⟨zz0, zz1, zz2, zz3, zz4, zz5, zz6⟩, zy0, zy1, zy2, zy3, zy4, zy5, zy6⟩ := za_w1)); (try ((first | have zb_w1 := NB.call (NB.alloc NB.zeroD _) hb1 | have zb_w1 := NB.call (NB.drew (NB.alloc NB.zeroD _)) hb1 | have zb_w1 := NB.call (NB.drew (NB.drew (NB.alloc NB.zeroD _))) hb1); (try simp at zb_w1); have hl_zb_w1 := zb_w1.lt; have zb_w1k := zb_w1; obtain ⟨⟨zz0, zz1, zz2, zz3, zz4, zz5, zz6⟩, zy0, zy1, zy2, zy3, zy4, zy5, zy6⟩ := zb_w1)); (try ((first | have zc_za_w2k := NB.call za_w2k hb1 | have zc_za_w2k := NB.call (NB.alloc za_w2k _) hb1 | have zc_za_w2k := NB.call (NB.alloc (NB.alloc za_w2k _) _) hb1); (try simp at zc_za_w2k); have hl_zc_za_w2k := zc_za_w2k.lt; have zc_za_w2kk := zc_za_w2k; obtain ⟨⟨zz0, zz1, zz2, zz3, zz4, zz5, zz6⟩, zy0, zy1, zy2, zy3, zy4, zy5, zy6⟩ := zc_za_w2k)); (try ((first | have zc_zb_w2k := NB.call zb_w2k hb1 | have zc_zb_w2k := NB.call (NB.alloc zb_w2k _) hb1 | have zc_zb_w2k := NB.call (NB.alloc (NB.alloc zb_w2k _) _) hb1); (try simp at zc_zb_w2k); have hl_zc_zb_w2k := zc_zb_w2k.lt; have zc_zb_w2kk := zc_zb_w2k; obtain ⟨⟨zz0, zz1, zz2, zz3, zz4, zz5, zz6⟩, zy0, zy1, zy2, zy3, zy4, zy5, zy6⟩ := zc_zb_w2k)))
          | (go_at_call_of 44 (Value.int IntKind.u64 b); refine (Ub.out _).mono ?_; rintro e w2 ⟨rfl, hb2⟩; have hK_w2 : RB w m a b c w2 := RB.step (by (repeat' (first | with_reducible assumption | refine RB.drew ?_ | refine RB.alloc ?_ _))) hb2; have hL_w2 := hK_w2; obtain ⟨hS_w2, ⟨hk0_w2, hk1_w2, hk2_w2⟩, ⟨hg0_w2, hg1_w2, hg2_w2⟩, _⟩ := hL_w2; have hz_w2 := hb2.size; (try simp at hz_w2); have ho_w2 : w.heap.size + 1 < w2.heap.size := (by omega); have hp_w2 : w.heap.size < w2.heap.size := (by omega); (try ((first | have za_w2 := NB.call (NB.zeroD) hb2 | have za_w2 := NB.call (NB.drew (NB.zeroD)) hb2 | have za_w2 := NB.call (NB.drew (NB.drew (NB.zeroD))) hb2); (try simp at za_w2); have hl_za_w2 := za_w2.lt; have za_w2k := za_w2; obtain ⟨⟨zz0, zz1, zz2, zz3, zz4, zz5, zz6⟩, zy0, zy1, zy2, zy3, zy4, zy5, zy6⟩ := za_w2)); (try ((first | have zb_w2 := NB.call (NB.alloc NB.zeroD _) hb2 | have zb_w2 := NB.call (NB.drew (NB.alloc NB.zeroD _)) hb2 | have zb_w2 := NB.call (NB.drew (NB.drew (NB.alloc NB.zeroD _))) hb2); (try simp at zb_w2); have hl_zb_w2 := zb_w2.lt; have zb_w2k := zb_w2; obtain ⟨⟨zz0, zz1, zz2, zz3, zz4, zz5, zz6⟩, zy0, zy1, zy2, zy3, zy4, zy5, zy6⟩ := zb_w2)); (try ((first | have zc_za_w1k := NB.call za_w1k hb2 | have zc_za_w1k := NB.call (NB.alloc za_w1k _) hb2 | have zc_za_w1k := NB.call (NB.alloc (NB.alloc za_w1k _) _) hb2); (try simp at zc_za_w1k); have hl_zc_za_w1k := zc_za_w1k.lt; have zc_za_w1kk := zc_za_w1k; obtain ⟨⟨zz0, zz1, zz2, zz3, zz4, zz5, zz6⟩, zy0, zy1, zy2, zy3, zy4, zy5, zy6⟩ := zc_za_w1k)); (try ((first | have zc_zb_w1k := NB.call zb_w1k hb2 | have zc_zb_w1k := NB.call (NB.alloc zb_w1k _) hb2 | have zc_zb_w1k := NB.call (NB.alloc (NB.alloc zb_w1k _) _) hb2); (try simp at zc_zb_w1k); have hl_zc_zb_w1k := zc_zb_w1k.lt; have zc_zb_w1kk := zc_zb_w1k; obtain ⟨⟨zz0, zz1, zz2, zz3, zz4, zz5, zz6⟩, zy0, zy1, zy2, zy3, zy4, zy5, zy6⟩ := zc_zb_w1k))))
      all_goals
        go_wp2_with fail
        go_meet
        refine ⟨_, _, rfl, rfl, ?_, ?_, by repeat' (first | with_reducible assumption | with_reducible refine RB.drew ?_ | with_reducible refine RB.alloc ?_ _ | with_reducible refine RB.put7 ?_ (by omega) _ _ _ _ _ _ _)⟩
        · repeat' (first | with_reducible assumption | with_reducible refine NB.put7 (n := false) (e := 0) (s := 0) (l := false) ?_ | with_reducible refine NB.far7 ?_ (by omega) _ _ _ _ _ _ _ | with_reducible exact NB.zeroAt (by first | rfl | (simp; done)) | with_reducible exact NB.newAt (by first | rfl | (simp; done)) | with_reducible refine NB.alloc ?_ _ | with_reducible refine NB.drew ?_)
        · repeat' (first | with_reducible assumption | with_reducible refine NB.put7 (n := false) (e := 0) (s := 0) (l := false) ?_ | with_reducible refine NB.far7 ?_ (by omega) _ _ _ _ _ _ _ | with_reducible exact NB.zeroAt (by first | rfl | (simp; done)) | with_reducible exact NB.newAt (by first | rfl | (simp; done)) | with_reducible refine NB.alloc ?_ _ | with_reducible refine NB.drew ?_)
    case rest =>
      obtain ⟨g5, g6, rfl, rfl, p5, p6, hK⟩ := hcut
      clear hK_0 hK_1 Ka Kb Ua Ub
      have hne5 : w.heap.size + 1 ≠ g5 := fun e => by have h := p5.1.1; rw [← e, hK.2.1.1] at h; exact absurd h (by simp)
      have hne6 : w.heap.size + 1 ≠ g6 := fun e => by have h := p6.1.1; rw [← e, hK.2.1.1] at h; exact absurd h (by simp)
      have hl5 := p5.lt
      have hl6 := p6.lt
      have hS_0 : ((wc.cell? ⟨w.heap.size, 1, none⟩ = some (.int .u8 m) ∧ wc.cell? ⟨w.heap.size, 2, none⟩ = some (.int .u64 a) ∧ wc.cell? ⟨w.heap.size, 3, none⟩ = some (.int .u64 b) ∧ wc.cell? ⟨w.heap.size, 4, none⟩ = some (.int .u64 c)) ∧ (wc.cell? ⟨g5, 0, none⟩ = some (Value.bool (na)) ∧ wc.cell? ⟨g5, 1, none⟩ = some (Value.int .i64 (ea)) ∧ wc.cell? ⟨g5, 2, none⟩ = some (Value.int .u64 (wd 0 (sa))) ∧ wc.cell? ⟨g5, 3, none⟩ = some (Value.int .u64 (wd 1 (sa))) ∧ wc.cell? ⟨g5, 4, none⟩ = some (Value.int .u64 (wd 2 (sa))) ∧ wc.cell? ⟨g5, 5, none⟩ = some (Value.int .u64 (wd 3 (sa))) ∧ wc.cell? ⟨g5, 6, none⟩ = some (Value.bool (false))) ∧ (wc.cell? ⟨g6, 0, none⟩ = some (Value.bool (nb)) ∧ wc.cell? ⟨g6, 1, none⟩ = some (Value.int .i64 (eb)) ∧ wc.cell? ⟨g6, 2, none⟩ = some (Value.int .u64 (wd 0 (sb))) ∧ wc.cell? ⟨g6, 3, none⟩ = some (Value.int .u64 (wd 1 (sb))) ∧ wc.cell? ⟨g6, 4, none⟩ = some (Value.int .u64 (wd 2 (sb))) ∧ wc.cell? ⟨g6, 5, none⟩ = some (Value.int .u64 (wd 3 (sb))) ∧ wc.cell? ⟨g6, 6, none⟩ = some (Value.bool (false)))) := ⟨hK.1, p5.1, p6.1⟩
      go_upto_region 7 with (fail)
      go_region_held3 (fun w' => ((w'.cell? ⟨w.heap.size, 1, none⟩ = some (.int .u8 m) ∧ w'.cell? ⟨w.heap.size, 2, none⟩ = some (.int .u64 a) ∧ w'.cell? ⟨w.heap.size, 3, none⟩ = some (.int .u64 b) ∧ w'.cell? ⟨w.heap.size, 4, none⟩ = some (.int .u64 c)) ∧ (w'.cell? ⟨g5, 0, none⟩ = some (Value.bool (na)) ∧ w'.cell? ⟨g5, 1, none⟩ = some (Value.int .i64 (ea)) ∧ w'.cell? ⟨g5, 2, none⟩ = some (Value.int .u64 (wd 0 (sa))) ∧ w'.cell? ⟨g5, 3, none⟩ = some (Value.int .u64 (wd 1 (sa))) ∧ w'.cell? ⟨g5, 4, none⟩ = some (Value.int .u64 (wd 2 (sa))) ∧ w'.cell? ⟨g5, 5, none⟩ = some (Value.int .u64 (wd 3 (sa))) ∧ w'.cell? ⟨g5, 6, none⟩ = some (Value.bool (false))) ∧ (w'.cell? ⟨g6, 0, none⟩ = some (Value.bool (nb)) ∧ w'.cell? ⟨g6, 1, none⟩ = some (Value.int .i64 (eb)) ∧ w'.cell? ⟨g6, 2, none⟩ = some (Value.int .u64 (wd 0 (sb))) ∧ w'.cell? ⟨g6, 3, none⟩ = some (Value.int .u64 (wd 1 (sb))) ∧ w'.cell? ⟨g6, 4, none⟩ = some (Value.int .u64 (wd 2 (sb))) ∧ w'.cell? ⟨g6, 5, none⟩ = some (Value.int .u64 (wd 3 (sb))) ∧ w'.cell? ⟨g6, 6, none⟩ = some (Value.bool (false)))))
        (first
          | with_reducible exact hS_7
          | with_reducible exact s_put3 hS_7 (by omega) hne5 hne6 _ _ _
          | with_reducible exact hS_6
          | with_reducible exact hS_5
          | with_reducible exact hS_4
          | with_reducible exact hS_3
          | with_reducible exact hS_0
          | go_keep)
        (first
          | (go_at_call 46; refine (R.out _).mono ?_; rintro e w7 ⟨rfl, hb7⟩; have p_7 : NB w7 g5 na ea sa false := NB.call (by repeat' (first | with_reducible assumption | refine NB.drew ?_ | refine NB.alloc ?_ _)) hb7; have o_7 : NB w7 g6 nb eb sb false := NB.call (by repeat' (first | with_reducible assumption | refine NB.drew ?_ | refine NB.alloc ?_ _)) hb7; have hK_7 : RB w m a b c w7 := RB.step (by repeat' (first | with_reducible assumption | refine RB.drew ?_ | refine RB.alloc ?_ _)) hb7; have hL_7 := hK_7; obtain ⟨hR_7, ⟨hk0_7, hk1_7, hk2_7⟩, ⟨hg0_7, hg1_7, hg2_7⟩, _⟩ := hL_7; have hS_7 : ((w7.cell? ⟨w.heap.size, 1, none⟩ = some (.int .u8 m) ∧ w7.cell? ⟨w.heap.size, 2, none⟩ = some (.int .u64 a) ∧ w7.cell? ⟨w.heap.size, 3, none⟩ = some (.int .u64 b) ∧ w7.cell? ⟨w.heap.size, 4, none⟩ = some (.int .u64 c)) ∧ (w7.cell? ⟨g5, 0, none⟩ = some (Value.bool (na)) ∧ w7.cell? ⟨g5, 1, none⟩ = some (Value.int .i64 (ea)) ∧ w7.cell? ⟨g5, 2, none⟩ = some (Value.int .u64 (wd 0 (sa))) ∧ w7.cell? ⟨g5, 3, none⟩ = some (Value.int .u64 (wd 1 (sa))) ∧ w7.cell? ⟨g5, 4, none⟩ = some (Value.int .u64 (wd 2 (sa))) ∧ w7.cell? ⟨g5, 5, none⟩ = some (Value.int .u64 (wd 3 (sa))) ∧ w7.cell? ⟨g5, 6, none⟩ = some (Value.bool (false))) ∧ (w7.cell? ⟨g6, 0, none⟩ = some (Value.bool (nb)) ∧ w7.cell? ⟨g6, 1, none⟩ = some (Value.int .i64 (eb)) ∧ w7.cell? ⟨g6, 2, none⟩ = some (Value.int .u64 (wd 0 (sb))) ∧ w7.cell? ⟨g6, 3, none⟩ = some (Value.int .u64 (wd 1 (sb))) ∧ w7.cell? ⟨g6, 4, none⟩ = some (Value.int .u64 (wd 2 (sb))) ∧ w7.cell? ⟨g6, 5, none⟩ = some (Value.int .u64 (wd 3 (sb))) ∧ w7.cell? ⟨g6, 6, none⟩ = some (Value.bool (false)))) := ⟨hR_7, p_7.1, o_7.1⟩)
          | (go_at_call 49; refine (Ro.out _).mono ?_; rintro e w6 ⟨rfl, hb6⟩; have p_6 : NB w6 g5 na ea sa false := NB.call (by repeat' (first | with_reducible assumption | refine NB.drew ?_ | refine NB.alloc ?_ _)) hb6; have o_6 : NB w6 g6 nb eb sb false := NB.call (by repeat' (first | with_reducible assumption | refine NB.drew ?_ | refine NB.alloc ?_ _)) hb6; have hK_6 : RB w m a b c w6 := RB.step (by repeat' (first | with_reducible assumption | refine RB.drew ?_ | refine RB.alloc ?_ _)) hb6; have hL_6 := hK_6; obtain ⟨hR_6, ⟨hk0_6, hk1_6, hk2_6⟩, ⟨hg0_6, hg1_6, hg2_6⟩, _⟩ := hL_6; have hS_6 : ((w6.cell? ⟨w.heap.size, 1, none⟩ = some (.int .u8 m) ∧ w6.cell? ⟨w.heap.size, 2, none⟩ = some (.int .u64 a) ∧ w6.cell? ⟨w.heap.size, 3, none⟩ = some (.int .u64 b) ∧ w6.cell? ⟨w.heap.size, 4, none⟩ = some (.int .u64 c)) ∧ (w6.cell? ⟨g5, 0, none⟩ = some (Value.bool (na)) ∧ w6.cell? ⟨g5, 1, none⟩ = some (Value.int .i64 (ea)) ∧ w6.cell? ⟨g5, 2, none⟩ = some (Value.int .u64 (wd 0 (sa))) ∧ w6.cell? ⟨g5, 3, none⟩ = some (Value.int .u64 (wd 1 (sa))) ∧ w6.cell? ⟨g5, 4, none⟩ = some (Value.int .u64 (wd 2 (sa))) ∧ w6.cell? ⟨g5, 5, none⟩ = some (Value.int .u64 (wd 3 (sa))) ∧ w6.cell? ⟨g5, 6, none⟩ = some (Value.bool (false))) ∧ (w6.cell? ⟨g6, 0, none⟩ = some (Value.bool (nb)) ∧ w6.cell? ⟨g6, 1, none⟩ = some (Value.int .i64 (eb)) ∧ w6.cell? ⟨g6, 2, none⟩ = some (Value.int .u64 (wd 0 (sb))) ∧ w6.cell? ⟨g6, 3, none⟩ = some (Value.int .u64 (wd 1 (sb))) ∧ w6.cell? ⟨g6, 4, none⟩ = some (Value.int .u64 (wd 2 (sb))) ∧ w6.cell? ⟨g6, 5, none⟩ = some (Value.int .u64 (wd 3 (sb))) ∧ w6.cell? ⟨g6, 6, none⟩ = some (Value.bool (false)))) := ⟨hR_6, p_6.1, o_6.1⟩)
          | (go_at_call 51; refine (PL.out _).mono ?_; rintro e w5 ⟨rfl, hb5⟩; have p_5 : NB w5 g5 na ea sa false := NB.call (by repeat' (first | with_reducible assumption | refine NB.drew ?_ | refine NB.alloc ?_ _)) hb5; have o_5 : NB w5 g6 nb eb sb false := NB.call (by repeat' (first | with_reducible assumption | refine NB.drew ?_ | refine NB.alloc ?_ _)) hb5; have hK_5 : RB w m a b c w5 := RB.step (by repeat' (first | with_reducible assumption | refine RB.drew ?_ | refine RB.alloc ?_ _)) hb5; have hL_5 := hK_5; obtain ⟨hR_5, ⟨hk0_5, hk1_5, hk2_5⟩, ⟨hg0_5, hg1_5, hg2_5⟩, _⟩ := hL_5; have hS_5 : ((w5.cell? ⟨w.heap.size, 1, none⟩ = some (.int .u8 m) ∧ w5.cell? ⟨w.heap.size, 2, none⟩ = some (.int .u64 a) ∧ w5.cell? ⟨w.heap.size, 3, none⟩ = some (.int .u64 b) ∧ w5.cell? ⟨w.heap.size, 4, none⟩ = some (.int .u64 c)) ∧ (w5.cell? ⟨g5, 0, none⟩ = some (Value.bool (na)) ∧ w5.cell? ⟨g5, 1, none⟩ = some (Value.int .i64 (ea)) ∧ w5.cell? ⟨g5, 2, none⟩ = some (Value.int .u64 (wd 0 (sa))) ∧ w5.cell? ⟨g5, 3, none⟩ = some (Value.int .u64 (wd 1 (sa))) ∧ w5.cell? ⟨g5, 4, none⟩ = some (Value.int .u64 (wd 2 (sa))) ∧ w5.cell? ⟨g5, 5, none⟩ = some (Value.int .u64 (wd 3 (sa))) ∧ w5.cell? ⟨g5, 6, none⟩ = some (Value.bool (false))) ∧ (w5.cell? ⟨g6, 0, none⟩ = some (Value.bool (nb)) ∧ w5.cell? ⟨g6, 1, none⟩ = some (Value.int .i64 (eb)) ∧ w5.cell? ⟨g6, 2, none⟩ = some (Value.int .u64 (wd 0 (sb))) ∧ w5.cell? ⟨g6, 3, none⟩ = some (Value.int .u64 (wd 1 (sb))) ∧ w5.cell? ⟨g6, 4, none⟩ = some (Value.int .u64 (wd 2 (sb))) ∧ w5.cell? ⟨g6, 5, none⟩ = some (Value.int .u64 (wd 3 (sb))) ∧ w5.cell? ⟨g6, 6, none⟩ = some (Value.bool (false)))) := ⟨hR_5, p_5.1, o_5.1⟩)
          | (go_at_call_of 45 (Value.int IntKind.i64 ea); refine (Ta.out _).mono ?_; rintro e w3 ⟨rfl, hb3⟩; have p_3 : NB w3 g5 na ea sa false := NB.call (by repeat' (first | with_reducible assumption | refine NB.drew ?_ | refine NB.alloc ?_ _)) hb3; have o_3 : NB w3 g6 nb eb sb false := NB.call (by repeat' (first | with_reducible assumption | refine NB.drew ?_ | refine NB.alloc ?_ _)) hb3; have hK_3 : RB w m a b c w3 := RB.step (by repeat' (first | with_reducible assumption | refine RB.drew ?_ | refine RB.alloc ?_ _)) hb3; have hL_3 := hK_3; obtain ⟨hR_3, ⟨hk0_3, hk1_3, hk2_3⟩, ⟨hg0_3, hg1_3, hg2_3⟩, _⟩ := hL_3; have hS_3 : ((w3.cell? ⟨w.heap.size, 1, none⟩ = some (.int .u8 m) ∧ w3.cell? ⟨w.heap.size, 2, none⟩ = some (.int .u64 a) ∧ w3.cell? ⟨w.heap.size, 3, none⟩ = some (.int .u64 b) ∧ w3.cell? ⟨w.heap.size, 4, none⟩ = some (.int .u64 c)) ∧ (w3.cell? ⟨g5, 0, none⟩ = some (Value.bool (na)) ∧ w3.cell? ⟨g5, 1, none⟩ = some (Value.int .i64 (ea)) ∧ w3.cell? ⟨g5, 2, none⟩ = some (Value.int .u64 (wd 0 (sa))) ∧ w3.cell? ⟨g5, 3, none⟩ = some (Value.int .u64 (wd 1 (sa))) ∧ w3.cell? ⟨g5, 4, none⟩ = some (Value.int .u64 (wd 2 (sa))) ∧ w3.cell? ⟨g5, 5, none⟩ = some (Value.int .u64 (wd 3 (sa))) ∧ w3.cell? ⟨g5, 6, none⟩ = some (Value.bool (false))) ∧ (w3.cell? ⟨g6, 0, none⟩ = some (Value.bool (nb)) ∧ w3.cell? ⟨g6, 1, none⟩ = some (Value.int .i64 (eb)) ∧ w3.cell? ⟨g6, 2, none⟩ = some (Value.int .u64 (wd 0 (sb))) ∧ w3.cell? ⟨g6, 3, none⟩ = some (Value.int .u64 (wd 1 (sb))) ∧ w3.cell? ⟨g6, 4, none⟩ = some (Value.int .u64 (wd 2 (sb))) ∧ w3.cell? ⟨g6, 5, none⟩ = some (Value.int .u64 (wd 3 (sb))) ∧ w3.cell? ⟨g6, 6, none⟩ = some (Value.bool (false)))) := ⟨hR_3, p_3.1, o_3.1⟩)
          | (go_at_call_of 45 (Value.int IntKind.i64 eb); refine (Tb.out _).mono ?_; rintro e w4 ⟨rfl, hb4⟩; have p_4 : NB w4 g5 na ea sa false := NB.call (by repeat' (first | with_reducible assumption | refine NB.drew ?_ | refine NB.alloc ?_ _)) hb4; have o_4 : NB w4 g6 nb eb sb false := NB.call (by repeat' (first | with_reducible assumption | refine NB.drew ?_ | refine NB.alloc ?_ _)) hb4; have hK_4 : RB w m a b c w4 := RB.step (by repeat' (first | with_reducible assumption | refine RB.drew ?_ | refine RB.alloc ?_ _)) hb4; have hL_4 := hK_4; obtain ⟨hR_4, ⟨hk0_4, hk1_4, hk2_4⟩, ⟨hg0_4, hg1_4, hg2_4⟩, _⟩ := hL_4; have hS_4 : ((w4.cell? ⟨w.heap.size, 1, none⟩ = some (.int .u8 m) ∧ w4.cell? ⟨w.heap.size, 2, none⟩ = some (.int .u64 a) ∧ w4.cell? ⟨w.heap.size, 3, none⟩ = some (.int .u64 b) ∧ w4.cell? ⟨w.heap.size, 4, none⟩ = some (.int .u64 c)) ∧ (w4.cell? ⟨g5, 0, none⟩ = some (Value.bool (na)) ∧ w4.cell? ⟨g5, 1, none⟩ = some (Value.int .i64 (ea)) ∧ w4.cell? ⟨g5, 2, none⟩ = some (Value.int .u64 (wd 0 (sa))) ∧ w4.cell? ⟨g5, 3, none⟩ = some (Value.int .u64 (wd 1 (sa))) ∧ w4.cell? ⟨g5, 4, none⟩ = some (Value.int .u64 (wd 2 (sa))) ∧ w4.cell? ⟨g5, 5, none⟩ = some (Value.int .u64 (wd 3 (sa))) ∧ w4.cell? ⟨g5, 6, none⟩ = some (Value.bool (false))) ∧ (w4.cell? ⟨g6, 0, none⟩ = some (Value.bool (nb)) ∧ w4.cell? ⟨g6, 1, none⟩ = some (Value.int .i64 (eb)) ∧ w4.cell? ⟨g6, 2, none⟩ = some (Value.int .u64 (wd 0 (sb))) ∧ w4.cell? ⟨g6, 3, none⟩ = some (Value.int .u64 (wd 1 (sb))) ∧ w4.cell? ⟨g6, 4, none⟩ = some (Value.int .u64 (wd 2 (sb))) ∧ w4.cell? ⟨g6, 5, none⟩ = some (Value.int .u64 (wd 3 (sb))) ∧ w4.cell? ⟨g6, 6, none⟩ = some (Value.bool (false)))) := ⟨hR_4, p_4.1, o_4.1⟩))
      all_goals
        go_wp2_with fail
        refine bodyPost_ret (v := RES1 bt fl false) (by simp [results, Tryd.results41, go_sem, *]) rfl ⟨rfl, ?_⟩
        exact hK_7.laid _ _ _
set_option maxRecDepth 100000 in
set_option maxHeartbeats 4000000 in
theorem hypot_go2 (op m a b c kb : Nat) (Ka : Hid (∀ W, Calls Tryd.prog 15 #[.int .u64 a] W fun e w' => e = .returned (.int .i64 0) ∧ W = w')) (Kb : Hid (∀ W, Calls Tryd.prog 15 #[.int .u64 b] W fun e w' => e = .returned (.int .i64 (kb : Int)) ∧ W = w')) (na nb np lp l : Bool) (ea eb fa fb ep h : Int) (sa sb ta tb sp r bt fl : Nat) (Ua : Hid (∀ W, Calls Tryd.prog 44 #[.int .u64 a] W fun e w' => e = .returned (NV na ea sa false) ∧ Below W.heap.size W w')) (Ub : Hid (∀ W, Calls Tryd.prog 44 #[.int .u64 b] W fun e w' => e = .returned (NV nb eb sb false) ∧ Below W.heap.size W w')) (Ta : Hid (∀ W, Calls Tryd.prog 45 #[NV na ea sa false, NV na ea sa false] W fun e w' => e = .returned (NV false fa ta false) ∧ Below W.heap.size W w')) (Tb : Hid (∀ W, Calls Tryd.prog 45 #[NV nb eb sb false, NV nb eb sb false] W fun e w' => e = .returned (NV false fb tb false) ∧ Below W.heap.size W w')) (PL : Hid (∀ W, Calls Tryd.prog 51 #[NV false fa ta false, NV false fb tb false] W fun e w' => e = .returned (NV np ep sp lp) ∧ Below W.heap.size W w'))
    (Ro : Hid (∀ W, Calls Tryd.prog 49 #[NV np ep sp lp] W fun e w' => e = .returned (NV false h r l) ∧ Below W.heap.size W w')) (R : Hid (∀ W, Calls Tryd.prog 46 #[NV false h r l, .int .u8 m] W (SoftOut bt fl false W))) (hkb0 : ((kb : Int) == 0) = false) (hkb3 : ((kb : Int) == 3) = false) (w : World) :
    Calls Tryd.prog 41 #[REC op m a b c] w (SoftOut bt fl false w) := by
  go_enter Tryd.func41, Tryd.ntmps41
  go_upto_region 2 with (fail)
  go_cut [3] (fun s wx => s = .pointer (some ⟨w.heap.size + 1 + 1, 0, none⟩) ∧ (((w.alloc (.cells #[.int .u8 op, .int .u8 m, .int .u64 a, .int .u64 b, .int .u64 c] 36)).alloc (.cells #[.int .u64 0, .int .u8 0, .bool false] 33)).alloc (.cells #[.int .i64 0, .int .i64 (kb : Int)] 53)).drew = wx)
  case first =>
    go_region_held3 (fun w' => (w'.cell? ⟨w.heap.size, 2, none⟩ = some (.int .u64 a) ∧ w'.cell? ⟨w.heap.size, 3, none⟩ = some (.int .u64 b)))
      (first
        | (refine ⟨?_, ?_⟩ <;> (go_simp; done))
        | go_keep)
      (first
        | (go_at_call_of 15 (Value.int IntKind.u64 a); refine (Ka.out _).mono ?_; rintro e w' ⟨rfl, rfl⟩)
        | (go_at_call_of 15 (Value.int IntKind.u64 b); refine (Kb.out _).mono ?_; rintro e w' ⟨rfl, rfl⟩))
    all_goals (go_wp2_with fail; go_meet; exact ⟨rfl, rfl⟩)
  case rest =>
    obtain ⟨rfl, rfl⟩ := hcut
    have hK_1 : RB w m a b c (((w.alloc (.cells #[.int .u8 op, .int .u8 m, .int .u64 a, .int .u64 b, .int .u64 c] 36)).alloc (.cells #[.int .u64 0, .int .u8 0, .bool false] 33)).alloc (.cells #[.int .i64 0, .int .i64 kb] 53)) := ((RB.start op).alloc _)
    have hK_0 : RB w m a b c (((w.alloc (.cells #[.int .u8 op, .int .u8 m, .int .u64 a, .int .u64 b, .int .u64 c] 36)).alloc (.cells #[.int .u64 0, .int .u8 0, .bool false] 33)).alloc (.cells #[.int .i64 0, .int .i64 kb] 53)).drew := ((RB.start op).alloc _).drew
    go_upto_region 6 with (fail)
    go_cut [4, 5] (fun s5 s6 wx => ∃ g5 g6 : Nat, s5 = .pointer (some ⟨g5, 0, none⟩) ∧ s6 = .pointer (some ⟨g6, 0, none⟩) ∧ NB wx g5 na ea sa false ∧ NB wx g6 nb eb sb false ∧ RB w m a b c wx)
    case first =>
      go_region_held3 (fun w' => (w'.cell? ⟨w.heap.size, 1, none⟩ = some (.int .u8 m) ∧ w'.cell? ⟨w.heap.size, 2, none⟩ = some (.int .u64 a) ∧ w'.cell? ⟨w.heap.size, 3, none⟩ = some (.int .u64 b) ∧ w'.cell? ⟨w.heap.size, 4, none⟩ = some (.int .u64 c)))
        (first
          | with_reducible exact hS_w2
          | with_reducible exact hS_w1
          | with_reducible exact hK_0.1
          | (refine ⟨?_, ?_, ?_, ?_⟩ <;> (go_simp; done))
          | go_keep)
        (first
          | (go_at_call_of 44 (Value.int IntKind.u64 a); refine (Ua.out _).mono ?_; rintro e w1 ⟨rfl, hb1⟩; have hK_w1 : RB w m a b c w1 := RB.step (by (repeat' (first | with_reducible assumption | refine RB.drew ?_ | refine RB.alloc ?_ _))) hb1; have hL_w1 := hK_w1; obtain ⟨hS_w1, ⟨hk0_w1, hk1_w1, hk2_w1⟩, ⟨hg0_w1, hg1_w1, hg2_w1⟩, _⟩ := hL_w1; have hz_w1 := hb1.size; (try simp at hz_w1); have ho_w1 : w.heap.size + 1 < w1.heap.size := (by omega); have hp_w1 : w.heap.size < w1.heap.size := (by omega); (try ((first | have za_w1 := NB.call (NB.zeroD) hb1 | have za_w1 := NB.call (NB.drew (NB.zeroD)) hb1 | have za_w1 := NB.call (NB.drew (NB.drew (NB.zeroD))) hb1); (try simp at za_w1); have hl_za_w1 := za_w1.lt; have za_w1k := za_w1; obtain ⟨⟨zz0, zz1, zz2, zz3, zz4, zz5, zz6⟩, zy0, zy1, zy2, zy3, zy4, zy5, zy6⟩ := za_w1)); (try ((first | have zb_w1 := NB.call (NB.alloc NB.zeroD _) hb1 | have zb_w1 := NB.call (NB.drew (NB.alloc NB.zeroD _)) hb1 | have zb_w1 := NB.call (NB.drew (NB.drew (NB.alloc NB.zeroD _))) hb1); (try simp at zb_w1); have hl_zb_w1 := zb_w1.lt; have zb_w1k := zb_w1; obtain ⟨⟨zz0, zz1, zz2, zz3, zz4, zz5, zz6⟩, zy0, zy1, zy2, zy3, zy4, zy5, zy6⟩ := zb_w1)); (try ((first | have zc_za_w2k := NB.call za_w2k hb1 | have zc_za_w2k := NB.call (NB.alloc za_w2k _) hb1 | have zc_za_w2k := NB.call (NB.alloc (NB.alloc za_w2k _) _) hb1); (try simp at zc_za_w2k); have hl_zc_za_w2k := zc_za_w2k.lt; have zc_za_w2kk := zc_za_w2k; obtain ⟨⟨zz0, zz1, zz2, zz3, zz4, zz5, zz6⟩, zy0, zy1, zy2, zy3, zy4, zy5, zy6⟩ := zc_za_w2k)); (try ((first | have zc_zb_w2k := NB.call zb_w2k hb1 | have zc_zb_w2k := NB.call (NB.alloc zb_w2k _) hb1 | have zc_zb_w2k := NB.call (NB.alloc (NB.alloc zb_w2k _) _) hb1); (try simp at zc_zb_w2k); have hl_zc_zb_w2k := zc_zb_w2k.lt; have zc_zb_w2kk := zc_zb_w2k; obtain ⟨⟨zz0, zz1, zz2, zz3, zz4, zz5, zz6⟩, zy0, zy1, zy2, zy3, zy4, zy5, zy6⟩ := zc_zb_w2k)))
          | (go_at_call_of 44 (Value.int IntKind.u64 b); refine (Ub.out _).mono ?_; rintro e w2 ⟨rfl, hb2⟩; have hK_w2 : RB w m a b c w2 := RB.step (by (repeat' (first | with_reducible assumption | refine RB.drew ?_ | refine RB.alloc ?_ _))) hb2; have hL_w2 := hK_w2; obtain ⟨hS_w2, ⟨hk0_w2, hk1_w2, hk2_w2⟩, ⟨hg0_w2, hg1_w2, hg2_w2⟩, _⟩ := hL_w2; have hz_w2 := hb2.size; (try simp at hz_w2); have ho_w2 : w.heap.size + 1 < w2.heap.size := (by omega); have hp_w2 : w.heap.size < w2.heap.size := (by omega); (try ((first | have za_w2 := NB.call (NB.zeroD) hb2 | have za_w2 := NB.call (NB.drew (NB.zeroD)) hb2 | have za_w2 := NB.call (NB.drew (NB.drew (NB.zeroD))) hb2); (try simp at za_w2); have hl_za_w2 := za_w2.lt; have za_w2k := za_w2; obtain ⟨⟨zz0, zz1, zz2, zz3, zz4, zz5, zz6⟩, zy0, zy1, zy2, zy3, zy4, zy5, zy6⟩ := za_w2)); (try ((first | have zb_w2 := NB.call (NB.alloc NB.zeroD _) hb2 | have zb_w2 := NB.call (NB.drew (NB.alloc NB.zeroD _)) hb2 | have zb_w2 := NB.call (NB.drew (NB.drew (NB.alloc NB.zeroD _))) hb2); (try simp at zb_w2); have hl_zb_w2 := zb_w2.lt; have zb_w2k := zb_w2; obtain ⟨⟨zz0, zz1, zz2, zz3, zz4, zz5, zz6⟩, zy0, zy1, zy2, zy3, zy4, zy5, zy6⟩ := zb_w2)); (try ((first | have zc_za_w1k := NB.call za_w1k hb2 | have zc_za_w1k := NB.call (NB.alloc za_w1k _) hb2 | have zc_za_w1k := NB.call (NB.alloc (NB.alloc za_w1k _) _) hb2); (try simp at zc_za_w1k); have hl_zc_za_w1k := zc_za_w1k.lt; have zc_za_w1kk := zc_za_w1k; obtain ⟨⟨zz0, zz1, zz2, zz3, zz4, zz5, zz6⟩, zy0, zy1, zy2, zy3, zy4, zy5, zy6⟩ := zc_za_w1k)); (try ((first | have zc_zb_w1k := NB.call zb_w1k hb2 | have zc_zb_w1k := NB.call (NB.alloc zb_w1k _) hb2 | have zc_zb_w1k := NB.call (NB.alloc (NB.alloc zb_w1k _) _) hb2); (try simp at zc_zb_w1k); have hl_zc_zb_w1k := zc_zb_w1k.lt; have zc_zb_w1kk := zc_zb_w1k; obtain ⟨⟨zz0, zz1, zz2, zz3, zz4, zz5, zz6⟩, zy0, zy1, zy2, zy3, zy4, zy5, zy6⟩ := zc_zb_w1k))))
      all_goals
        go_wp2_with fail
        go_meet
        refine ⟨_, _, rfl, rfl, ?_, ?_, by repeat' (first | with_reducible assumption | with_reducible refine RB.drew ?_ | with_reducible refine RB.alloc ?_ _ | with_reducible refine RB.put7 ?_ (by omega) _ _ _ _ _ _ _)⟩
        · repeat' (first | with_reducible assumption | with_reducible refine NB.put7 (n := false) (e := 0) (s := 0) (l := false) ?_ | with_reducible refine NB.far7 ?_ (by omega) _ _ _ _ _ _ _ | with_reducible exact NB.zeroAt (by first | rfl | (simp; done)) | with_reducible exact NB.newAt (by first | rfl | (simp; done)) | with_reducible refine NB.alloc ?_ _ | with_reducible refine NB.drew ?_)
        · repeat' (first | with_reducible assumption | with_reducible refine NB.put7 (n := false) (e := 0) (s := 0) (l := false) ?_ | with_reducible refine NB.far7 ?_ (by omega) _ _ _ _ _ _ _ | with_reducible exact NB.zeroAt (by first | rfl | (simp; done)) | with_reducible exact NB.newAt (by first | rfl | (simp; done)) | with_reducible refine NB.alloc ?_ _ | with_reducible refine NB.drew ?_)
    case rest =>
      obtain ⟨g5, g6, rfl, rfl, p5, p6, hK⟩ := hcut
      clear hK_0 hK_1 Ka Kb Ua Ub
      have hne5 : w.heap.size + 1 ≠ g5 := fun e => by have h := p5.1.1; rw [← e, hK.2.1.1] at h; exact absurd h (by simp)
      have hne6 : w.heap.size + 1 ≠ g6 := fun e => by have h := p6.1.1; rw [← e, hK.2.1.1] at h; exact absurd h (by simp)
      have hl5 := p5.lt
      have hl6 := p6.lt
      have hS_0 : ((wc.cell? ⟨w.heap.size, 1, none⟩ = some (.int .u8 m) ∧ wc.cell? ⟨w.heap.size, 2, none⟩ = some (.int .u64 a) ∧ wc.cell? ⟨w.heap.size, 3, none⟩ = some (.int .u64 b) ∧ wc.cell? ⟨w.heap.size, 4, none⟩ = some (.int .u64 c)) ∧ (wc.cell? ⟨g5, 0, none⟩ = some (Value.bool (na)) ∧ wc.cell? ⟨g5, 1, none⟩ = some (Value.int .i64 (ea)) ∧ wc.cell? ⟨g5, 2, none⟩ = some (Value.int .u64 (wd 0 (sa))) ∧ wc.cell? ⟨g5, 3, none⟩ = some (Value.int .u64 (wd 1 (sa))) ∧ wc.cell? ⟨g5, 4, none⟩ = some (Value.int .u64 (wd 2 (sa))) ∧ wc.cell? ⟨g5, 5, none⟩ = some (Value.int .u64 (wd 3 (sa))) ∧ wc.cell? ⟨g5, 6, none⟩ = some (Value.bool (false))) ∧ (wc.cell? ⟨g6, 0, none⟩ = some (Value.bool (nb)) ∧ wc.cell? ⟨g6, 1, none⟩ = some (Value.int .i64 (eb)) ∧ wc.cell? ⟨g6, 2, none⟩ = some (Value.int .u64 (wd 0 (sb))) ∧ wc.cell? ⟨g6, 3, none⟩ = some (Value.int .u64 (wd 1 (sb))) ∧ wc.cell? ⟨g6, 4, none⟩ = some (Value.int .u64 (wd 2 (sb))) ∧ wc.cell? ⟨g6, 5, none⟩ = some (Value.int .u64 (wd 3 (sb))) ∧ wc.cell? ⟨g6, 6, none⟩ = some (Value.bool (false)))) := ⟨hK.1, p5.1, p6.1⟩
      go_upto_region 7 with (fail)
      go_region_held3 (fun w' => ((w'.cell? ⟨w.heap.size, 1, none⟩ = some (.int .u8 m) ∧ w'.cell? ⟨w.heap.size, 2, none⟩ = some (.int .u64 a) ∧ w'.cell? ⟨w.heap.size, 3, none⟩ = some (.int .u64 b) ∧ w'.cell? ⟨w.heap.size, 4, none⟩ = some (.int .u64 c)) ∧ (w'.cell? ⟨g5, 0, none⟩ = some (Value.bool (na)) ∧ w'.cell? ⟨g5, 1, none⟩ = some (Value.int .i64 (ea)) ∧ w'.cell? ⟨g5, 2, none⟩ = some (Value.int .u64 (wd 0 (sa))) ∧ w'.cell? ⟨g5, 3, none⟩ = some (Value.int .u64 (wd 1 (sa))) ∧ w'.cell? ⟨g5, 4, none⟩ = some (Value.int .u64 (wd 2 (sa))) ∧ w'.cell? ⟨g5, 5, none⟩ = some (Value.int .u64 (wd 3 (sa))) ∧ w'.cell? ⟨g5, 6, none⟩ = some (Value.bool (false))) ∧ (w'.cell? ⟨g6, 0, none⟩ = some (Value.bool (nb)) ∧ w'.cell? ⟨g6, 1, none⟩ = some (Value.int .i64 (eb)) ∧ w'.cell? ⟨g6, 2, none⟩ = some (Value.int .u64 (wd 0 (sb))) ∧ w'.cell? ⟨g6, 3, none⟩ = some (Value.int .u64 (wd 1 (sb))) ∧ w'.cell? ⟨g6, 4, none⟩ = some (Value.int .u64 (wd 2 (sb))) ∧ w'.cell? ⟨g6, 5, none⟩ = some (Value.int .u64 (wd 3 (sb))) ∧ w'.cell? ⟨g6, 6, none⟩ = some (Value.bool (false)))))
        (first
          | with_reducible exact hS_7
          | with_reducible exact s_put3 hS_7 (by omega) hne5 hne6 _ _ _
          | with_reducible exact hS_6
          | with_reducible exact hS_5
          | with_reducible exact hS_4
          | with_reducible exact hS_3
          | with_reducible exact hS_0
          | go_keep)
        (first
          | (go_at_call 46; refine (R.out _).mono ?_; rintro e w7 ⟨rfl, hb7⟩; have p_7 : NB w7 g5 na ea sa false := NB.call (by repeat' (first | with_reducible assumption | refine NB.drew ?_ | refine NB.alloc ?_ _)) hb7; have o_7 : NB w7 g6 nb eb sb false := NB.call (by repeat' (first | with_reducible assumption | refine NB.drew ?_ | refine NB.alloc ?_ _)) hb7; have hK_7 : RB w m a b c w7 := RB.step (by repeat' (first | with_reducible assumption | refine RB.drew ?_ | refine RB.alloc ?_ _)) hb7; have hL_7 := hK_7; obtain ⟨hR_7, ⟨hk0_7, hk1_7, hk2_7⟩, ⟨hg0_7, hg1_7, hg2_7⟩, _⟩ := hL_7; have hS_7 : ((w7.cell? ⟨w.heap.size, 1, none⟩ = some (.int .u8 m) ∧ w7.cell? ⟨w.heap.size, 2, none⟩ = some (.int .u64 a) ∧ w7.cell? ⟨w.heap.size, 3, none⟩ = some (.int .u64 b) ∧ w7.cell? ⟨w.heap.size, 4, none⟩ = some (.int .u64 c)) ∧ (w7.cell? ⟨g5, 0, none⟩ = some (Value.bool (na)) ∧ w7.cell? ⟨g5, 1, none⟩ = some (Value.int .i64 (ea)) ∧ w7.cell? ⟨g5, 2, none⟩ = some (Value.int .u64 (wd 0 (sa))) ∧ w7.cell? ⟨g5, 3, none⟩ = some (Value.int .u64 (wd 1 (sa))) ∧ w7.cell? ⟨g5, 4, none⟩ = some (Value.int .u64 (wd 2 (sa))) ∧ w7.cell? ⟨g5, 5, none⟩ = some (Value.int .u64 (wd 3 (sa))) ∧ w7.cell? ⟨g5, 6, none⟩ = some (Value.bool (false))) ∧ (w7.cell? ⟨g6, 0, none⟩ = some (Value.bool (nb)) ∧ w7.cell? ⟨g6, 1, none⟩ = some (Value.int .i64 (eb)) ∧ w7.cell? ⟨g6, 2, none⟩ = some (Value.int .u64 (wd 0 (sb))) ∧ w7.cell? ⟨g6, 3, none⟩ = some (Value.int .u64 (wd 1 (sb))) ∧ w7.cell? ⟨g6, 4, none⟩ = some (Value.int .u64 (wd 2 (sb))) ∧ w7.cell? ⟨g6, 5, none⟩ = some (Value.int .u64 (wd 3 (sb))) ∧ w7.cell? ⟨g6, 6, none⟩ = some (Value.bool (false)))) := ⟨hR_7, p_7.1, o_7.1⟩)
          | (go_at_call 49; refine (Ro.out _).mono ?_; rintro e w6 ⟨rfl, hb6⟩; have p_6 : NB w6 g5 na ea sa false := NB.call (by repeat' (first | with_reducible assumption | refine NB.drew ?_ | refine NB.alloc ?_ _)) hb6; have o_6 : NB w6 g6 nb eb sb false := NB.call (by repeat' (first | with_reducible assumption | refine NB.drew ?_ | refine NB.alloc ?_ _)) hb6; have hK_6 : RB w m a b c w6 := RB.step (by repeat' (first | with_reducible assumption | refine RB.drew ?_ | refine RB.alloc ?_ _)) hb6; have hL_6 := hK_6; obtain ⟨hR_6, ⟨hk0_6, hk1_6, hk2_6⟩, ⟨hg0_6, hg1_6, hg2_6⟩, _⟩ := hL_6; have hS_6 : ((w6.cell? ⟨w.heap.size, 1, none⟩ = some (.int .u8 m) ∧ w6.cell? ⟨w.heap.size, 2, none⟩ = some (.int .u64 a) ∧ w6.cell? ⟨w.heap.size, 3, none⟩ = some (.int .u64 b) ∧ w6.cell? ⟨w.heap.size, 4, none⟩ = some (.int .u64 c)) ∧ (w6.cell? ⟨g5, 0, none⟩ = some (Value.bool (na)) ∧ w6.cell? ⟨g5, 1, none⟩ = some (Value.int .i64 (ea)) ∧ w6.cell? ⟨g5, 2, none⟩ = some (Value.int .u64 (wd 0 (sa))) ∧ w6.cell? ⟨g5, 3, none⟩ = some (Value.int .u64 (wd 1 (sa))) ∧ w6.cell? ⟨g5, 4, none⟩ = some (Value.int .u64 (wd 2 (sa))) ∧ w6.cell? ⟨g5, 5, none⟩ = some (Value.int .u64 (wd 3 (sa))) ∧ w6.cell? ⟨g5, 6, none⟩ = some (Value.bool (false))) ∧ (w6.cell? ⟨g6, 0, none⟩ = some (Value.bool (nb)) ∧ w6.cell? ⟨g6, 1, none⟩ = some (Value.int .i64 (eb)) ∧ w6.cell? ⟨g6, 2, none⟩ = some (Value.int .u64 (wd 0 (sb))) ∧ w6.cell? ⟨g6, 3, none⟩ = some (Value.int .u64 (wd 1 (sb))) ∧ w6.cell? ⟨g6, 4, none⟩ = some (Value.int .u64 (wd 2 (sb))) ∧ w6.cell? ⟨g6, 5, none⟩ = some (Value.int .u64 (wd 3 (sb))) ∧ w6.cell? ⟨g6, 6, none⟩ = some (Value.bool (false)))) := ⟨hR_6, p_6.1, o_6.1⟩)
          | (go_at_call 51; refine (PL.out _).mono ?_; rintro e w5 ⟨rfl, hb5⟩; have p_5 : NB w5 g5 na ea sa false := NB.call (by repeat' (first | with_reducible assumption | refine NB.drew ?_ | refine NB.alloc ?_ _)) hb5; have o_5 : NB w5 g6 nb eb sb false := NB.call (by repeat' (first | with_reducible assumption | refine NB.drew ?_ | refine NB.alloc ?_ _)) hb5; have hK_5 : RB w m a b c w5 := RB.step (by repeat' (first | with_reducible assumption | refine RB.drew ?_ | refine RB.alloc ?_ _)) hb5; have hL_5 := hK_5; obtain ⟨hR_5, ⟨hk0_5, hk1_5, hk2_5⟩, ⟨hg0_5, hg1_5, hg2_5⟩, _⟩ := hL_5; have hS_5 : ((w5.cell? ⟨w.heap.size, 1, none⟩ = some (.int .u8 m) ∧ w5.cell? ⟨w.heap.size, 2, none⟩ = some (.int .u64 a) ∧ w5.cell? ⟨w.heap.size, 3, none⟩ = some (.int .u64 b) ∧ w5.cell? ⟨w.heap.size, 4, none⟩ = some (.int .u64 c)) ∧ (w5.cell? ⟨g5, 0, none⟩ = some (Value.bool (na)) ∧ w5.cell? ⟨g5, 1, none⟩ = some (Value.int .i64 (ea)) ∧ w5.cell? ⟨g5, 2, none⟩ = some (Value.int .u64 (wd 0 (sa))) ∧ w5.cell? ⟨g5, 3, none⟩ = some (Value.int .u64 (wd 1 (sa))) ∧ w5.cell? ⟨g5, 4, none⟩ = some (Value.int .u64 (wd 2 (sa))) ∧ w5.cell? ⟨g5, 5, none⟩ = some (Value.int .u64 (wd 3 (sa))) ∧ w5.cell? ⟨g5, 6, none⟩ = some (Value.bool (false))) ∧ (w5.cell? ⟨g6, 0, none⟩ = some (Value.bool (nb)) ∧ w5.cell? ⟨g6, 1, none⟩ = some (Value.int .i64 (eb)) ∧ w5.cell? ⟨g6, 2, none⟩ = some (Value.int .u64 (wd 0 (sb))) ∧ w5.cell? ⟨g6, 3, none⟩ = some (Value.int .u64 (wd 1 (sb))) ∧ w5.cell? ⟨g6, 4, none⟩ = some (Value.int .u64 (wd 2 (sb))) ∧ w5.cell? ⟨g6, 5, none⟩ = some (Value.int .u64 (wd 3 (sb))) ∧ w5.cell? ⟨g6, 6, none⟩ = some (Value.bool (false)))) := ⟨hR_5, p_5.1, o_5.1⟩)
          | (go_at_call_of 45 (Value.int IntKind.i64 ea); refine (Ta.out _).mono ?_; rintro e w3 ⟨rfl, hb3⟩; have p_3 : NB w3 g5 na ea sa false := NB.call (by repeat' (first | with_reducible assumption | refine NB.drew ?_ | refine NB.alloc ?_ _)) hb3; have o_3 : NB w3 g6 nb eb sb false := NB.call (by repeat' (first | with_reducible assumption | refine NB.drew ?_ | refine NB.alloc ?_ _)) hb3; have hK_3 : RB w m a b c w3 := RB.step (by repeat' (first | with_reducible assumption | refine RB.drew ?_ | refine RB.alloc ?_ _)) hb3; have hL_3 := hK_3; obtain ⟨hR_3, ⟨hk0_3, hk1_3, hk2_3⟩, ⟨hg0_3, hg1_3, hg2_3⟩, _⟩ := hL_3; have hS_3 : ((w3.cell? ⟨w.heap.size, 1, none⟩ = some (.int .u8 m) ∧ w3.cell? ⟨w.heap.size, 2, none⟩ = some (.int .u64 a) ∧ w3.cell? ⟨w.heap.size, 3, none⟩ = some (.int .u64 b) ∧ w3.cell? ⟨w.heap.size, 4, none⟩ = some (.int .u64 c)) ∧ (w3.cell? ⟨g5, 0, none⟩ = some (Value.bool (na)) ∧ w3.cell? ⟨g5, 1, none⟩ = some (Value.int .i64 (ea)) ∧ w3.cell? ⟨g5, 2, none⟩ = some (Value.int .u64 (wd 0 (sa))) ∧ w3.cell? ⟨g5, 3, none⟩ = some (Value.int .u64 (wd 1 (sa))) ∧ w3.cell? ⟨g5, 4, none⟩ = some (Value.int .u64 (wd 2 (sa))) ∧ w3.cell? ⟨g5, 5, none⟩ = some (Value.int .u64 (wd 3 (sa))) ∧ w3.cell? ⟨g5, 6, none⟩ = some (Value.bool (false))) ∧ (w3.cell? ⟨g6, 0, none⟩ = some (Value.bool (nb)) ∧ w3.cell? ⟨g6, 1, none⟩ = some (Value.int .i64 (eb)) ∧ w3.cell? ⟨g6, 2, none⟩ = some (Value.int .u64 (wd 0 (sb))) ∧ w3.cell? ⟨g6, 3, none⟩ = some (Value.int .u64 (wd 1 (sb))) ∧ w3.cell? ⟨g6, 4, none⟩ = some (Value.int .u64 (wd 2 (sb))) ∧ w3.cell? ⟨g6, 5, none⟩ = some (Value.int .u64 (wd 3 (sb))) ∧ w3.cell? ⟨g6, 6, none⟩ = some (Value.bool (false)))) := ⟨hR_3, p_3.1, o_3.1⟩)
          | (go_at_call_of 45 (Value.int IntKind.i64 eb); refine (Tb.out _).mono ?_; rintro e w4 ⟨rfl, hb4⟩; have p_4 : NB w4 g5 na ea sa false := NB.call (by repeat' (first | with_reducible assumption | refine NB.drew ?_ | refine NB.alloc ?_ _)) hb4; have o_4 : NB w4 g6 nb eb sb false := NB.call (by repeat' (first | with_reducible assumption | refine NB.drew ?_ | refine NB.alloc ?_ _)) hb4; have hK_4 : RB w m a b c w4 := RB.step (by repeat' (first | with_reducible assumption | refine RB.drew ?_ | refine RB.alloc ?_ _)) hb4; have hL_4 := hK_4; obtain ⟨hR_4, ⟨hk0_4, hk1_4, hk2_4⟩, ⟨hg0_4, hg1_4, hg2_4⟩, _⟩ := hL_4; have hS_4 : ((w4.cell? ⟨w.heap.size, 1, none⟩ = some (.int .u8 m) ∧ w4.cell? ⟨w.heap.size, 2, none⟩ = some (.int .u64 a) ∧ w4.cell? ⟨w.heap.size, 3, none⟩ = some (.int .u64 b) ∧ w4.cell? ⟨w.heap.size, 4, none⟩ = some (.int .u64 c)) ∧ (w4.cell? ⟨g5, 0, none⟩ = some (Value.bool (na)) ∧ w4.cell? ⟨g5, 1, none⟩ = some (Value.int .i64 (ea)) ∧ w4.cell? ⟨g5, 2, none⟩ = some (Value.int .u64 (wd 0 (sa))) ∧ w4.cell? ⟨g5, 3, none⟩ = some (Value.int .u64 (wd 1 (sa))) ∧ w4.cell? ⟨g5, 4, none⟩ = some (Value.int .u64 (wd 2 (sa))) ∧ w4.cell? ⟨g5, 5, none⟩ = some (Value.int .u64 (wd 3 (sa))) ∧ w4.cell? ⟨g5, 6, none⟩ = some (Value.bool (false))) ∧ (w4.cell? ⟨g6, 0, none⟩ = some (Value.bool (nb)) ∧ w4.cell? ⟨g6, 1, none⟩ = some (Value.int .i64 (eb)) ∧ w4.cell? ⟨g6, 2, none⟩ = some (Value.int .u64 (wd 0 (sb))) ∧ w4.cell? ⟨g6, 3, none⟩ = some (Value.int .u64 (wd 1 (sb))) ∧ w4.cell? ⟨g6, 4, none⟩ = some (Value.int .u64 (wd 2 (sb))) ∧ w4.cell? ⟨g6, 5, none⟩ = some (Value.int .u64 (wd 3 (sb))) ∧ w4.cell? ⟨g6, 6, none⟩ = some (Value.bool (false)))) := ⟨hR_4, p_4.1, o_4.1⟩))
      all_goals
        go_wp2_with fail
        refine bodyPost_ret (v := RES1 bt fl false) (by simp [results, Tryd.results41, go_sem, *]) rfl ⟨rfl, ?_⟩
        exact hK_7.laid _ _ _
end Go.Proofs.YtldmbneckcjonabDoor
namespace Go.Proofs.YtldmbneckcjonabDoor
open Go.RowKit
/-- The sum of two squares, exactly. -/
def hypW (a b : Nat) : Nat := val (exN a * exN a) (exE a + exE a) + val (exN b * exN b) (exE b + exE b)
noncomputable def hypV (m a b : Nat) : Nat × Nat := roundS m false (rootN (hypW a b)) (decide (rootN (hypW a b) * rootN (hypW a b) ≠ hypW a b)) (-2500)
@[irreducible] noncomputable def hypS (m a b : Nat) : Nat × Nat :=
  if kindN a = 3 ∨ kindN b = 3 then (9218868437227405312, 0) else if kindN a = 0 ∧ kindN b = 0 then (0, 0) else hypV m a b
theorem hyp_sum (a b : Nat) : (sumV false false (val (sigU a * sigU a) (expU a + expU a)) (val (sigU b * sigU b) (expU b + expU b))).2 = hypW a b := by
  unfold sumV; rw [if_pos rfl]; rw [val_mul, val_mul]; rfl
theorem hyp_soft {m a b k : Nat} {h : Int} {q : Bool × Int × Nat × Bool} (hq : SumOk (sumV false false (val (sigU a * sigU a) (expU a + expU a)) (val (sigU b * sigU b) (expU b + expU b))) q) (hs : q.2.2.1 ≠ 0) (hk : 2 * h = q.2.1 - k) (hk1 : 108 ≤ bl q.2.2.1 + k) (hk3 : k ≤ 254) :
    roundS m false (rootN (q.2.2.1 * 2 ^ k)) (decide (rootN (q.2.2.1 * 2 ^ k) * rootN (q.2.2.1 * 2 ^ k) ≠ q.2.2.1 * 2 ^ k) || q.2.2.2) h = hypV m a b := by
  obtain ⟨h1, h3, h4, _⟩ := hq
  rw [hyp_sum] at h1
  have := rooted_left (m := m) h1 (by omega) hs (fun hl => by have := h3 hl; omega) hk hk1 hk3 (rootN_is _) (rootN_is (hypW a b))
  rw [Bool.or_false] at this
  exact this
theorem hyp_ref {m a b n X k : Nat} {e h : Int} (hV : val n e = hypW a b) (hn : n ≠ 0) (he : -4000 ≤ e) (hk : 2 * h = e - k) (hk1 : 108 ≤ k) (hk3 : k ≤ 254) (hX : IsRoot (n * 2 ^ k) X) :
    roundS m false (mk2 X (true && decide (X * X = n * 2 ^ k))) false (h - 1) = hypV m a b := by
  have hbn := bl_shift (k := k) hn
  have hR := rootN_is (hypW a b)
  unfold hypV
  rw [← hV] at hR ⊢
  rw [marked_root (k := k) hX (by omega), Bool.not_true, Bool.or_false]
  exact rooted_exact hk (by omega) (by omega) hX hR
theorem hypW_ne {a b : Nat} (h : exN a ≠ 0 ∨ exN b ≠ 0) : hypW a b ≠ 0 := by
  unfold hypW val
  rcases h with h | h
  · have := Nat.mul_pos (Nat.mul_pos (Nat.pos_of_ne_zero h) (Nat.pos_of_ne_zero h)) (Nat.two_pow_pos (exE a + exE a + 5000).toNat); omega
  · have := Nat.mul_pos (Nat.mul_pos (Nat.pos_of_ne_zero h) (Nat.pos_of_ne_zero h)) (Nat.two_pow_pos (exE b + exE b + 5000).toNat); omega
theorem bl_sq53 {x : Nat} (h : bl x ≤ 53) : bl (x * x) ≤ 106 := by
  refine bl_le.2 ?_
  have h1 : x < 2 ^ 53 := bl_le.1 h
  have h2 : x * x < 2 ^ 53 * 2 ^ 53 := Nat.mul_lt_mul_of_lt_of_lt h1 h1
  rw [← Nat.pow_add] at h2
  exact h2
end Go.Proofs.YtldmbneckcjonabDoor
namespace Go.Proofs.YtldmbneckcjonabDoor
open Go.RowKit
theorem times_sq (a : Nat) (W : World) : Calls Tryd.prog 45 #[NV (negU a) (expU a) (sigU a) false, NV (negU a) (expU a) (sigU a) false] W fun e w' => e = .returned (NV false (expU a + expU a) (sigU a * sigU a) false) ∧ Below W.heap.size W w' := by
  have := times_sig (a := a) (b := a) W
  rw [bne_self_eq_false] at this
  exact this
theorem hyp_any (op m a b c : Nat) (hm : m < 5) (ua : U64 a) (ub : U64 b) (w : World) : Calls Tryd.prog 41 #[REC op m a b c] w (SoftOut (hypS m a b).1 (hypS m a b).2 false w) := by
  have Ka := Lib.hid (fun W => kindOf_any a W)
  have Kb := Lib.hid (fun W => kindOf_any b W)
  have za := kind_zero (x := a)
  have zb := kind_zero (x := b)
  by_cases h1 : kindN a = 3
  · have e : hypS m a b = (9218868437227405312, 0) := by unfold hypS; rw [if_pos (.inl h1)]
    rw [e]; rw [h1] at Ka
    exact hypot_inf1 op m a b c _ Ka Kb w
  · by_cases h2 : kindN b = 3
    · have e : hypS m a b = (9218868437227405312, 0) := by unfold hypS; rw [if_pos (.inr h2)]
      rw [e]; rw [h2] at Kb
      exact hypot_inf2 op m a b c _ Ka Kb (nef (n := 3) h1) w
    · by_cases h3 : kindN a = 0 ∧ kindN b = 0
      · have e : hypS m a b = (0, 0) := by unfold hypS; rw [if_neg (by omega), if_pos h3]
        rw [e]; rw [h3.1] at Ka; rw [h3.2] at Kb
        exact hypot_zz op m a b c Ka Kb w
      · have e : hypS m a b = hypV m a b := by unfold hypS; rw [if_neg (by omega), if_neg h3]
        rw [e]
        have b1 := expU_bounds a
        have b2 := expU_bounds b
        have la := bl_sq53 (bl_sigU a)
        have lb := bl_sq53 (bl_sigU b)
        have ok := plusP_ok (n1 := false) (n2 := false) (a := sigU a * sigU a) (b := sigU b * sigU b) (e1 := expU a + expU a) (e2 := expU b + expU b) (by omega) (by omega) (by omega) (by omega)
        obtain ⟨q1, q2⟩ := plusP_bl (n1 := false) (n2 := false) (a := sigU a * sigU a) (b := sigU b * sigU b) (e1 := expU a + expU a) (e2 := expU b + expU b) (by omega) (by omega) (by omega) (by omega)
        have hz := ok.zero
        have P := fun W => plus_any false false (expU a + expU a) (expU b + expU b) (sigU a * sigU a) (sigU b * sigU b) (by omega) (by omega) (by omega) (by omega) (by omega) (by omega) W
        generalize plusP false false (sigU a * sigU a) (sigU b * sigU b) (expU a + expU a) (expU b + expU b) = q at *
        have ok2 := ok.2.1
        have ok3 := ok.2.2.1
        have hs0 : q.2.2.1 ≠ 0 := by
          rcases hz.2 (by rw [hyp_sum]; exact hypW_ne (by omega)) with h | h
          · exact h
          · have := ok2 h; exact bl_pos.1 (by omega)
        obtain ⟨k, h, k1, k2, k3, hu, hr0, Ro⟩ := rooted_any (n := q.1) (l := q.2.2.2) (e := q.2.1) hs0 (by omega) (by omega) (by omega)
        rw [← hyp_soft (m := m) ok hs0 k1 (by omega) (by omega)]
        by_cases h0 : kindN a = 0
        · rw [h0] at Ka
          exact hypot_go2 op m a b c _ Ka Kb _ _ _ _ _ _ _ _ _ _ h _ _ _ _ _ _ _ _ (fun W => unpack_any a ua W) (fun W => unpack_any b ub W) (fun W => times_sq a W) (fun W => times_sq b W) P Ro (fun W => round_any _ _ _ _ m hu hr0 hm (by omega) (by omega) W) (nef (n := 0) (by omega)) (nef (n := 3) h2) w
        · exact hypot_go1 op m a b c _ _ Ka Kb _ _ _ _ _ _ _ _ _ _ h _ _ _ _ _ _ _ _ (fun W => unpack_any a ua W) (fun W => unpack_any b ub W) (fun W => times_sq a W) (fun W => times_sq b W) P Ro (fun W => round_any _ _ _ _ m hu hr0 hm (by omega) (by omega) W) (nef (n := 0) h0) (nef (n := 3) h1) (nef (n := 3) h2) w
end Go.Proofs.YtldmbneckcjonabDoor
