/- Several texts in one: soft.mul. · soft.mul, whole. -/
import Derived.Test.YtldmbneckcjonabDoorGC
import Derived.Test.YtldmbneckcjonabDoorGD
import Derived.Test.YtldmbneckcjonabDoorGN
set_option linter.unusedVariables false
set_option linter.unusedSimpArgs false
namespace Go.Proofs.YtldmbneckcjonabDoor
open Go.RowKit
attribute [local go_sem] two_run
set_option maxRecDepth 100000 in
set_option maxHeartbeats 1000000 in
theorem mul_bad1 (op m a b c : Nat) (Ka : Hid (∀ W, Calls Tryd.prog 15 #[.int .u64 a] W fun e w' => e = .returned (.int .i64 3) ∧ W = w')) (Kb : Hid (∀ W, Calls Tryd.prog 15 #[.int .u64 b] W fun e w' => e = .returned (.int .i64 0) ∧ W = w')) (sg : Nat) (hx : bits .and .u64 (bits .xor .u64 (a : Int) (b : Int)) 9223372036854775808 = sg) (w : World) :
    Calls Tryd.prog 35 #[REC op m a b c] w (SoftOut 9221120237041090560 16 false w) := by
  go_enter Tryd.func35, Tryd.ntmps35
  go_upto_region 2 with (fail)
  go_cut [4] (fun s wx => s = .pointer (some ⟨w.heap.size + 1 + 1, 0, none⟩) ∧ (((w.alloc (.cells #[.int .u8 op, .int .u8 m, .int .u64 a, .int .u64 b, .int .u64 c] 36)).alloc (.cells #[.int .u64 0, .int .u8 0, .bool false] 33)).alloc (.cells #[.int .i64 3, .int .i64 0] 53)).drew = wx)
  case first =>
    go_region_held3 (fun w' => (w'.cell? ⟨w.heap.size, 2, none⟩ = some (.int .u64 a) ∧ w'.cell? ⟨w.heap.size, 3, none⟩ = some (.int .u64 b)))
      (first
        | (refine ⟨?_, ?_⟩ <;> (go_simp; done))
        | go_keep)
      (first
        | (go_at_call_of 15 (Value.int IntKind.u64 a); refine (Ka.out _).mono ?_; rintro e w' ⟨rfl, rfl⟩)
        | (go_at_call_of 15 (Value.int IntKind.u64 b); refine (Kb.out _).mono ?_; rintro e w' ⟨rfl, rfl⟩))
    all_goals (go_wp2_with fail; go_meet; exact ⟨rfl, rfl⟩)
  case rest =>
    obtain ⟨rfl, rfl⟩ := hcut
    go_wp2_with (go_at_call 16; refine (bad_any _).mono ?_; rintro e w1 ⟨rfl, hb1⟩; obtain ⟨hc_, hf_⟩ := bcell1 hb1)
    all_goals refine bodyPost_ret (v := RES1 9221120237041090560 16 false) (by simp [results, Tryd.results35, go_sem, *]) rfl ⟨rfl, ?_⟩
    repeat' (first | with_reducible exact Below.refl _ _ | with_reducible assumption | with_reducible refine Below.drew ?_ | with_reducible refine bdrewN ?_ _ | with_reducible refine Below.alloc ?_ ?_ _ | with_reducible refine Below.setCell ?_ ?_ _ | with_reducible refine Below.trans ?_ (Below.mono (by assumption) ?_) | omega | (simp; done) | (simp; omega))
set_option maxRecDepth 100000 in
set_option maxHeartbeats 1000000 in
theorem mul_bad2 (op m a b c : Nat) (Ka : Hid (∀ W, Calls Tryd.prog 15 #[.int .u64 a] W fun e w' => e = .returned (.int .i64 0) ∧ W = w')) (Kb : Hid (∀ W, Calls Tryd.prog 15 #[.int .u64 b] W fun e w' => e = .returned (.int .i64 3) ∧ W = w')) (sg : Nat) (hx : bits .and .u64 (bits .xor .u64 (a : Int) (b : Int)) 9223372036854775808 = sg) (w : World) :
    Calls Tryd.prog 35 #[REC op m a b c] w (SoftOut 9221120237041090560 16 false w) := by
  go_enter Tryd.func35, Tryd.ntmps35
  go_upto_region 2 with (fail)
  go_cut [4] (fun s wx => s = .pointer (some ⟨w.heap.size + 1 + 1, 0, none⟩) ∧ (((w.alloc (.cells #[.int .u8 op, .int .u8 m, .int .u64 a, .int .u64 b, .int .u64 c] 36)).alloc (.cells #[.int .u64 0, .int .u8 0, .bool false] 33)).alloc (.cells #[.int .i64 0, .int .i64 3] 53)).drew = wx)
  case first =>
    go_region_held3 (fun w' => (w'.cell? ⟨w.heap.size, 2, none⟩ = some (.int .u64 a) ∧ w'.cell? ⟨w.heap.size, 3, none⟩ = some (.int .u64 b)))
      (first
        | (refine ⟨?_, ?_⟩ <;> (go_simp; done))
        | go_keep)
      (first
        | (go_at_call_of 15 (Value.int IntKind.u64 a); refine (Ka.out _).mono ?_; rintro e w' ⟨rfl, rfl⟩)
        | (go_at_call_of 15 (Value.int IntKind.u64 b); refine (Kb.out _).mono ?_; rintro e w' ⟨rfl, rfl⟩))
    all_goals (go_wp2_with fail; go_meet; exact ⟨rfl, rfl⟩)
  case rest =>
    obtain ⟨rfl, rfl⟩ := hcut
    go_wp2_with (go_at_call 16; refine (bad_any _).mono ?_; rintro e w1 ⟨rfl, hb1⟩; obtain ⟨hc_, hf_⟩ := bcell1 hb1)
    all_goals refine bodyPost_ret (v := RES1 9221120237041090560 16 false) (by simp [results, Tryd.results35, go_sem, *]) rfl ⟨rfl, ?_⟩
    repeat' (first | with_reducible exact Below.refl _ _ | with_reducible assumption | with_reducible refine Below.drew ?_ | with_reducible refine bdrewN ?_ _ | with_reducible refine Below.alloc ?_ ?_ _ | with_reducible refine Below.setCell ?_ ?_ _ | with_reducible refine Below.trans ?_ (Below.mono (by assumption) ?_) | omega | (simp; done) | (simp; omega))
set_option maxRecDepth 100000 in
set_option maxHeartbeats 1000000 in
theorem mul_inf1 (op m a b c kb : Nat) (Ka : Hid (∀ W, Calls Tryd.prog 15 #[.int .u64 a] W fun e w' => e = .returned (.int .i64 3) ∧ W = w')) (Kb : Hid (∀ W, Calls Tryd.prog 15 #[.int .u64 b] W fun e w' => e = .returned (.int .i64 (kb : Int)) ∧ W = w')) (sg : Nat) (hx : bits .and .u64 (bits .xor .u64 (a : Int) (b : Int)) 9223372036854775808 = sg) (bi : Nat) (hi : bits .or .u64 (sg : Int) 9218868437227405312 = bi) (hkb0 : ((kb : Int) == 0) = false) (w : World) :
    Calls Tryd.prog 35 #[REC op m a b c] w (SoftOut bi 0 false w) := by
  go_enter Tryd.func35, Tryd.ntmps35
  go_upto_region 2 with (fail)
  go_cut [4] (fun s wx => s = .pointer (some ⟨w.heap.size + 1 + 1, 0, none⟩) ∧ (((w.alloc (.cells #[.int .u8 op, .int .u8 m, .int .u64 a, .int .u64 b, .int .u64 c] 36)).alloc (.cells #[.int .u64 0, .int .u8 0, .bool false] 33)).alloc (.cells #[.int .i64 3, .int .i64 (kb : Int)] 53)).drew = wx)
  case first =>
    go_region_held3 (fun w' => (w'.cell? ⟨w.heap.size, 2, none⟩ = some (.int .u64 a) ∧ w'.cell? ⟨w.heap.size, 3, none⟩ = some (.int .u64 b)))
      (first
        | (refine ⟨?_, ?_⟩ <;> (go_simp; done))
        | go_keep)
      (first
        | (go_at_call_of 15 (Value.int IntKind.u64 a); refine (Ka.out _).mono ?_; rintro e w' ⟨rfl, rfl⟩)
        | (go_at_call_of 15 (Value.int IntKind.u64 b); refine (Kb.out _).mono ?_; rintro e w' ⟨rfl, rfl⟩))
    all_goals (go_wp2_with fail; go_meet; exact ⟨rfl, rfl⟩)
  case rest =>
    obtain ⟨rfl, rfl⟩ := hcut
    go_wp2_with fail
    all_goals refine bodyPost_ret (v := RES1 bi 0 false) (by simp [results, Tryd.results35, go_sem, *]) rfl ⟨rfl, ?_⟩
    repeat' (first | with_reducible exact Below.refl _ _ | with_reducible assumption | with_reducible refine Below.drew ?_ | with_reducible refine bdrewN ?_ _ | with_reducible refine Below.alloc ?_ ?_ _ | with_reducible refine Below.setCell ?_ ?_ _ | with_reducible refine Below.trans ?_ (Below.mono (by assumption) ?_) | omega | (simp; done) | (simp; omega))
set_option maxRecDepth 100000 in
set_option maxHeartbeats 1000000 in
theorem mul_inf2 (op m a b c ka : Nat) (Ka : Hid (∀ W, Calls Tryd.prog 15 #[.int .u64 a] W fun e w' => e = .returned (.int .i64 (ka : Int)) ∧ W = w')) (Kb : Hid (∀ W, Calls Tryd.prog 15 #[.int .u64 b] W fun e w' => e = .returned (.int .i64 3) ∧ W = w')) (sg : Nat) (hx : bits .and .u64 (bits .xor .u64 (a : Int) (b : Int)) 9223372036854775808 = sg) (bi : Nat) (hi : bits .or .u64 (sg : Int) 9218868437227405312 = bi) (hka0 : ((ka : Int) == 0) = false) (hka3 : ((ka : Int) == 3) = false) (w : World) :
    Calls Tryd.prog 35 #[REC op m a b c] w (SoftOut bi 0 false w) := by
  go_enter Tryd.func35, Tryd.ntmps35
  go_upto_region 2 with (fail)
  go_cut [4] (fun s wx => s = .pointer (some ⟨w.heap.size + 1 + 1, 0, none⟩) ∧ (((w.alloc (.cells #[.int .u8 op, .int .u8 m, .int .u64 a, .int .u64 b, .int .u64 c] 36)).alloc (.cells #[.int .u64 0, .int .u8 0, .bool false] 33)).alloc (.cells #[.int .i64 (ka : Int), .int .i64 3] 53)).drew = wx)
  case first =>
    go_region_held3 (fun w' => (w'.cell? ⟨w.heap.size, 2, none⟩ = some (.int .u64 a) ∧ w'.cell? ⟨w.heap.size, 3, none⟩ = some (.int .u64 b)))
      (first
        | (refine ⟨?_, ?_⟩ <;> (go_simp; done))
        | go_keep)
      (first
        | (go_at_call_of 15 (Value.int IntKind.u64 a); refine (Ka.out _).mono ?_; rintro e w' ⟨rfl, rfl⟩)
        | (go_at_call_of 15 (Value.int IntKind.u64 b); refine (Kb.out _).mono ?_; rintro e w' ⟨rfl, rfl⟩))
    all_goals (go_wp2_with fail; go_meet; exact ⟨rfl, rfl⟩)
  case rest =>
    obtain ⟨rfl, rfl⟩ := hcut
    go_wp2_with fail
    all_goals refine bodyPost_ret (v := RES1 bi 0 false) (by simp [results, Tryd.results35, go_sem, *]) rfl ⟨rfl, ?_⟩
    repeat' (first | with_reducible exact Below.refl _ _ | with_reducible assumption | with_reducible refine Below.drew ?_ | with_reducible refine bdrewN ?_ _ | with_reducible refine Below.alloc ?_ ?_ _ | with_reducible refine Below.setCell ?_ ?_ _ | with_reducible refine Below.trans ?_ (Below.mono (by assumption) ?_) | omega | (simp; done) | (simp; omega))
set_option maxRecDepth 100000 in
set_option maxHeartbeats 1000000 in
theorem mul_z1 (op m a b c kb : Nat) (Ka : Hid (∀ W, Calls Tryd.prog 15 #[.int .u64 a] W fun e w' => e = .returned (.int .i64 0) ∧ W = w')) (Kb : Hid (∀ W, Calls Tryd.prog 15 #[.int .u64 b] W fun e w' => e = .returned (.int .i64 (kb : Int)) ∧ W = w')) (sg : Nat) (hx : bits .and .u64 (bits .xor .u64 (a : Int) (b : Int)) 9223372036854775808 = sg) (hkb3 : ((kb : Int) == 3) = false) (w : World) :
    Calls Tryd.prog 35 #[REC op m a b c] w (SoftOut sg 0 false w) := by
  go_enter Tryd.func35, Tryd.ntmps35
  go_upto_region 2 with (fail)
  go_cut [4] (fun s wx => s = .pointer (some ⟨w.heap.size + 1 + 1, 0, none⟩) ∧ (((w.alloc (.cells #[.int .u8 op, .int .u8 m, .int .u64 a, .int .u64 b, .int .u64 c] 36)).alloc (.cells #[.int .u64 0, .int .u8 0, .bool false] 33)).alloc (.cells #[.int .i64 0, .int .i64 (kb : Int)] 53)).drew = wx)
  case first =>
    go_region_held3 (fun w' => (w'.cell? ⟨w.heap.size, 2, none⟩ = some (.int .u64 a) ∧ w'.cell? ⟨w.heap.size, 3, none⟩ = some (.int .u64 b)))
      (first
        | (refine ⟨?_, ?_⟩ <;> (go_simp; done))
        | go_keep)
      (first
        | (go_at_call_of 15 (Value.int IntKind.u64 a); refine (Ka.out _).mono ?_; rintro e w' ⟨rfl, rfl⟩)
        | (go_at_call_of 15 (Value.int IntKind.u64 b); refine (Kb.out _).mono ?_; rintro e w' ⟨rfl, rfl⟩))
    all_goals (go_wp2_with fail; go_meet; exact ⟨rfl, rfl⟩)
  case rest =>
    obtain ⟨rfl, rfl⟩ := hcut
    go_wp2_with fail
    all_goals refine bodyPost_ret (v := RES1 sg 0 false) (by simp [results, Tryd.results35, go_sem, *]) rfl ⟨rfl, ?_⟩
    repeat' (first | with_reducible exact Below.refl _ _ | with_reducible assumption | with_reducible refine Below.drew ?_ | with_reducible refine bdrewN ?_ _ | with_reducible refine Below.alloc ?_ ?_ _ | with_reducible refine Below.setCell ?_ ?_ _ | with_reducible refine Below.trans ?_ (Below.mono (by assumption) ?_) | omega | (simp; done) | (simp; omega))
set_option maxRecDepth 100000 in
set_option maxHeartbeats 1000000 in
theorem mul_z2 (op m a b c ka : Nat) (Ka : Hid (∀ W, Calls Tryd.prog 15 #[.int .u64 a] W fun e w' => e = .returned (.int .i64 (ka : Int)) ∧ W = w')) (Kb : Hid (∀ W, Calls Tryd.prog 15 #[.int .u64 b] W fun e w' => e = .returned (.int .i64 0) ∧ W = w')) (sg : Nat) (hx : bits .and .u64 (bits .xor .u64 (a : Int) (b : Int)) 9223372036854775808 = sg) (hka3 : ((ka : Int) == 3) = false) (hka0 : ((ka : Int) == 0) = false) (w : World) :
    Calls Tryd.prog 35 #[REC op m a b c] w (SoftOut sg 0 false w) := by
  go_enter Tryd.func35, Tryd.ntmps35
  go_upto_region 2 with (fail)
  go_cut [4] (fun s wx => s = .pointer (some ⟨w.heap.size + 1 + 1, 0, none⟩) ∧ (((w.alloc (.cells #[.int .u8 op, .int .u8 m, .int .u64 a, .int .u64 b, .int .u64 c] 36)).alloc (.cells #[.int .u64 0, .int .u8 0, .bool false] 33)).alloc (.cells #[.int .i64 (ka : Int), .int .i64 0] 53)).drew = wx)
  case first =>
    go_region_held3 (fun w' => (w'.cell? ⟨w.heap.size, 2, none⟩ = some (.int .u64 a) ∧ w'.cell? ⟨w.heap.size, 3, none⟩ = some (.int .u64 b)))
      (first
        | (refine ⟨?_, ?_⟩ <;> (go_simp; done))
        | go_keep)
      (first
        | (go_at_call_of 15 (Value.int IntKind.u64 a); refine (Ka.out _).mono ?_; rintro e w' ⟨rfl, rfl⟩)
        | (go_at_call_of 15 (Value.int IntKind.u64 b); refine (Kb.out _).mono ?_; rintro e w' ⟨rfl, rfl⟩))
    all_goals (go_wp2_with fail; go_meet; exact ⟨rfl, rfl⟩)
  case rest =>
    obtain ⟨rfl, rfl⟩ := hcut
    go_wp2_with fail
    all_goals refine bodyPost_ret (v := RES1 sg 0 false) (by simp [results, Tryd.results35, go_sem, *]) rfl ⟨rfl, ?_⟩
    repeat' (first | with_reducible exact Below.refl _ _ | with_reducible assumption | with_reducible refine Below.drew ?_ | with_reducible refine bdrewN ?_ _ | with_reducible refine Below.alloc ?_ ?_ _ | with_reducible refine Below.setCell ?_ ?_ _ | with_reducible refine Below.trans ?_ (Below.mono (by assumption) ?_) | omega | (simp; done) | (simp; omega))
set_option maxRecDepth 100000 in
set_option maxHeartbeats 1000000 in
theorem mul_go (op m a b c ka kb : Nat) (Ka : Hid (∀ W, Calls Tryd.prog 15 #[.int .u64 a] W fun e w' => e = .returned (.int .i64 (ka : Int)) ∧ W = w')) (Kb : Hid (∀ W, Calls Tryd.prog 15 #[.int .u64 b] W fun e w' => e = .returned (.int .i64 (kb : Int)) ∧ W = w')) (sg : Nat) (hx : bits .and .u64 (bits .xor .u64 (a : Int) (b : Int)) 9223372036854775808 = sg) (na nb ng : Bool) (ea eb eg : Int) (sa sb sq bt fl : Nat) (Ua : Hid (∀ W, Calls Tryd.prog 44 #[.int .u64 a] W fun e w' => e = .returned (NV na ea sa false) ∧ Below W.heap.size W w')) (Ub : Hid (∀ W, Calls Tryd.prog 44 #[.int .u64 b] W fun e w' => e = .returned (NV nb eb sb false) ∧ Below W.heap.size W w')) (T : Hid (∀ W, Calls Tryd.prog 45 #[NV na ea sa false, NV nb eb sb false] W fun e w' => e = .returned (NV ng eg sq false) ∧ Below W.heap.size W w')) (R : Hid (∀ W, Calls Tryd.prog 46 #[NV ng eg sq false, .int .u8 m] W (SoftOut bt fl false W))) (hka0 : ((ka : Int) == 0) = false) (hka3 : ((ka : Int) == 3) = false) (hkb0 : ((kb : Int) == 0) = false) (hkb3 : ((kb : Int) == 3) = false) (w : World) :
    Calls Tryd.prog 35 #[REC op m a b c] w (SoftOut bt fl false w) := by
  go_enter Tryd.func35, Tryd.ntmps35
  go_upto_region 2 with (fail)
  go_cut [4] (fun s wx => s = .pointer (some ⟨w.heap.size + 1 + 1, 0, none⟩) ∧ (((w.alloc (.cells #[.int .u8 op, .int .u8 m, .int .u64 a, .int .u64 b, .int .u64 c] 36)).alloc (.cells #[.int .u64 0, .int .u8 0, .bool false] 33)).alloc (.cells #[.int .i64 (ka : Int), .int .i64 (kb : Int)] 53)).drew = wx)
  case first =>
    go_region_held3 (fun w' => (w'.cell? ⟨w.heap.size, 2, none⟩ = some (.int .u64 a) ∧ w'.cell? ⟨w.heap.size, 3, none⟩ = some (.int .u64 b)))
      (first
        | (refine ⟨?_, ?_⟩ <;> (go_simp; done))
        | go_keep)
      (first
        | (go_at_call_of 15 (Value.int IntKind.u64 a); refine (Ka.out _).mono ?_; rintro e w' ⟨rfl, rfl⟩)
        | (go_at_call_of 15 (Value.int IntKind.u64 b); refine (Kb.out _).mono ?_; rintro e w' ⟨rfl, rfl⟩))
    all_goals (go_wp2_with fail; go_meet; exact ⟨rfl, rfl⟩)
  case rest =>
    obtain ⟨rfl, rfl⟩ := hcut
    have hK_0 : RB w m a b c (((w.alloc (.cells #[.int .u8 op, .int .u8 m, .int .u64 a, .int .u64 b, .int .u64 c] 36)).alloc (.cells #[.int .u64 0, .int .u8 0, .bool false] 33)).alloc (.cells #[.int .i64 ka, .int .i64 kb] 53)).drew := ((RB.start op).alloc _).drew
    go_wp2_with fail
    go_region_held3 (fun w' => (w'.cell? ⟨w.heap.size, 1, none⟩ = some (.int .u8 m) ∧ w'.cell? ⟨w.heap.size, 2, none⟩ = some (.int .u64 a) ∧ w'.cell? ⟨w.heap.size, 3, none⟩ = some (.int .u64 b) ∧ w'.cell? ⟨w.heap.size, 4, none⟩ = some (.int .u64 c)))
      (first
        | exact hS_w4
        | exact hS_w3
        | exact hS_w2
        | exact hS_w1
        | exact hK_0.1
        | go_keep)
      (first
        | (go_at_call_of 44 (Value.int IntKind.u64 a); refine (Ua.out _).mono ?_; rintro e w1 ⟨rfl, hb1⟩; have hK_w1 : RB w m a b c w1 := RB.step (by first | exact hK_0 | exact hK_0.drew | exact (hK_0.drew).drew) hb1; have hL_w1 := hK_w1; obtain ⟨hS_w1, ⟨hk0_w1, hk1_w1, hk2_w1⟩, ⟨hg0_w1, hg1_w1, hg2_w1⟩, _⟩ := hL_w1)
        | (go_at_call_of 44 (Value.int IntKind.u64 b); refine (Ub.out _).mono ?_; rintro e w2 ⟨rfl, hb2⟩; have hK_w2 : RB w m a b c w2 := RB.step (by first | exact hK_w1 | exact hK_w1.drew | exact (hK_w1.drew).drew | exact hK_0 | exact hK_0.drew | exact (hK_0.drew).drew) hb2; have hL_w2 := hK_w2; obtain ⟨hS_w2, ⟨hk0_w2, hk1_w2, hk2_w2⟩, ⟨hg0_w2, hg1_w2, hg2_w2⟩, _⟩ := hL_w2)
        | (go_at_call 45; refine (T.out _).mono ?_; rintro e w3 ⟨rfl, hb3⟩; have hK_w3 : RB w m a b c w3 := RB.step (by first | exact hK_w2 | exact hK_w2.drew | exact (hK_w2.drew).drew | exact hK_w1 | exact hK_w1.drew | exact (hK_w1.drew).drew) hb3; have hL_w3 := hK_w3; obtain ⟨hS_w3, ⟨hk0_w3, hk1_w3, hk2_w3⟩, ⟨hg0_w3, hg1_w3, hg2_w3⟩, _⟩ := hL_w3)
        | (go_at_call 46; refine (R.out _).mono ?_; rintro e w4 ⟨rfl, hb4⟩; have hK_w4 : RB w m a b c w4 := RB.step (by first | exact hK_w3 | exact hK_w3.drew | exact (hK_w3.drew).drew) hb4; have hL_w4 := hK_w4; obtain ⟨hS_w4, ⟨hk0_w4, hk1_w4, hk2_w4⟩, ⟨hg0_w4, hg1_w4, hg2_w4⟩, _⟩ := hL_w4))
    go_wp2_with fail
    refine bodyPost_ret (v := RES1 bt fl false) (by simp [results, Tryd.results35, go_sem, *]) rfl ⟨rfl, ?_⟩
    exact hK_w4.laid _ _ _
end Go.Proofs.YtldmbneckcjonabDoor
namespace Go.Proofs.YtldmbneckcjonabDoor
open Go.RowKit
theorem nef {k n : Nat} (h : k ≠ n) : ((k : Int) == (n : Int)) = false := by rw [beq_eq_false_iff_ne]; omega
theorem sigU_u256 (a b : Nat) : U256 (sigU a * sigU b) := by
  have h1 := sigU_lt a
  have h2 := sigU_lt b
  have h3 : sigU a * sigU b ≤ 9007199254740992 * 9007199254740992 := Nat.mul_le_mul (by omega) (by omega)
  unfold U256
  exact Nat.lt_of_le_of_lt h3 (by decide)
theorem wd_sig (a : Nat) : wd 0 (sigU a) = sigU a := by have := sigU_lt a; rw [wd0]; omega
theorem times_sig {a b : Nat} (W : World) : Calls Tryd.prog 45 #[NV (negU a) (expU a) (sigU a) false, NV (negU b) (expU b) (sigU b) false] W fun e w' => e = .returned (NV (negU a != negU b) (expU a + expU b) (sigU a * sigU b) false) ∧ Below W.heap.size W w' := by
  have := times_any (n1 := negU a) (n2 := negU b) (l1 := false) (l2 := false) (e1 := expU a) (e2 := expU b) (s1 := sigU a) (s2 := sigU b) (by have := expU_bounds a; have := expU_bounds b; unfold wrap64; omega) W
  rw [wd_sig, wd_sig] at this
  exact this
theorem mul_any (op m a b c : Nat) (hm : m < 5) (ua : U64 a) (ub : U64 b) (ka : kindN a < 4) (kb : kindN b < 4) (w : World) : Calls Tryd.prog 35 #[REC op m a b c] w (SoftOut (mulS m a b).1 (mulS m a b).2 false w) := by
  have Ka := Lib.hid (fun W => kindOf_any a W)
  have Kb := Lib.hid (fun W => kindOf_any b W)
  have hx := xor_sign ua ub
  have hor := or_sign (negU a != negU b) 9218868437227405312 (by omega)
  have za := kind_zero (x := a)
  have zb := kind_zero (x := b)
  by_cases h1 : kindN a = 3 ∧ kindN b = 0
  · have e : mulS m a b = (9221120237041090560, 16) := by unfold mulS; rw [if_pos (.inl h1)]
    rw [e]; rw [h1.1] at Ka; rw [h1.2] at Kb
    exact mul_bad1 op m a b c Ka Kb _ hx w
  · by_cases h2 : kindN a = 0 ∧ kindN b = 3
    · have e : mulS m a b = (9221120237041090560, 16) := by unfold mulS; rw [if_pos (.inr h2)]
      rw [e]; rw [h2.1] at Ka; rw [h2.2] at Kb
      exact mul_bad2 op m a b c Ka Kb _ hx w
    · have e0 : mulS m a b = if kindN a = 3 ∨ kindN b = 3 then (signN (negU a != negU b) + 9218868437227405312, 0)
          else if kindN a = 0 ∨ kindN b = 0 then (signN (negU a != negU b), 0)
          else roundS m (negU a != negU b) (exN a * exN b) false (exE a + exE b) := by unfold mulS; rw [if_neg (by omega)]
      rw [e0]
      by_cases h3 : kindN a = 3
      · rw [if_pos (.inl h3)]
        rw [h3] at Ka
        exact mul_inf1 op m a b c _ Ka Kb _ hx _ hor (nef (n := 0) (by omega)) w
      · by_cases h4 : kindN b = 3
        · rw [if_pos (.inr h4)]
          rw [h4] at Kb
          exact mul_inf2 op m a b c _ Ka Kb _ hx _ hor (nef (n := 0) (by omega)) (nef (n := 3) h3) w
        · rw [if_neg (by omega)]
          by_cases h5 : kindN a = 0
          · rw [if_pos (.inl h5)]
            rw [h5] at Ka
            exact mul_z1 op m a b c _ Ka Kb _ hx (nef (n := 3) h4) w
          · by_cases h6 : kindN b = 0
            · rw [if_pos (.inr h6)]
              rw [h6] at Kb
              exact mul_z2 op m a b c _ Ka Kb _ hx (nef (n := 3) h3) (nef (n := 0) h5) w
            · rw [if_neg (by omega)]
              have ha : exN a ≠ 0 := by omega
              have hb : exN b ≠ 0 := by omega
              rw [← mul_same ha hb]
              have hs0 : sigU a * sigU b ≠ 0 := by rw [Ne, Nat.mul_eq_zero, sigU_zero, sigU_zero]; omega
              have b1 := expU_bounds a
              have b2 := expU_bounds b
              exact mul_go op m a b c _ _ Ka Kb _ hx _ _ _ _ _ _ _ _ _ _ _ (fun W => unpack_any a ua W) (fun W => unpack_any b ub W) (fun W => times_sig W) (fun W => round_any _ false _ _ m (sigU_u256 a b) hs0 hm (by omega) (by omega) W) (nef (n := 0) h5) (nef (n := 3) h3) (nef (n := 0) h6) (nef (n := 3) h4) w
end Go.Proofs.YtldmbneckcjonabDoor
