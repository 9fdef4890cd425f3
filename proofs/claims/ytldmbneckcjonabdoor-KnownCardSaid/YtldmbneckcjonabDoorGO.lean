/- Several texts in one: soft.fma. · soft.fma, whole. -/
import Derived.Test.YtldmbneckcjonabDoorGC
import Derived.Test.YtldmbneckcjonabDoorGD
import Derived.Test.YtldmbneckcjonabDoorGN
import Derived.Test.YtldmbneckcjonabDoorGL
import Derived.Test.YtldmbneckcjonabDoorGM
set_option linter.unusedVariables false
set_option linter.unusedSimpArgs false
namespace Go.Proofs.YtldmbneckcjonabDoor
open Go.RowKit
attribute [local go_sem] two_run
set_option maxRecDepth 100000 in
set_option maxHeartbeats 2000000 in
theorem fma_bad1 (op m a b c kc : Nat) (Ka : Hid (∀ W, Calls Tryd.prog 15 #[.int .u64 a] W fun e w' => e = .returned (.int .i64 3) ∧ W = w')) (Kb : Hid (∀ W, Calls Tryd.prog 15 #[.int .u64 b] W fun e w' => e = .returned (.int .i64 0) ∧ W = w')) (Kc : Hid (∀ W, Calls Tryd.prog 15 #[.int .u64 c] W fun e w' => e = .returned (.int .i64 (kc : Int)) ∧ W = w')) (w : World) :
    Calls Tryd.prog 37 #[REC op m a b c] w (SoftOut 9221120237041090560 16 false w) := by
  go_enter Tryd.func37, Tryd.ntmps37
  go_upto_region 1 with (fail)
  go_cut [3] (fun s wx => s = .pointer (some ⟨w.heap.size + 1 + 1, 0, none⟩) ∧ (((w.alloc (.cells #[.int .u8 op, .int .u8 m, .int .u64 a, .int .u64 b, .int .u64 c] 36)).alloc (.cells #[.int .u64 0, .int .u8 0, .bool false] 33)).alloc (.cells #[.int .i64 3, .int .i64 0] 53)).drew = wx)
  case first =>
    go_region_held3 (fun w' => (w'.cell? ⟨w.heap.size, 2, none⟩ = some (.int .u64 a) ∧ w'.cell? ⟨w.heap.size, 3, none⟩ = some (.int .u64 b)))
      (first
        | (refine ⟨?_, ?_⟩ <;> (go_simp; done))
        | go_keep)
      (first
        | (go_at_call_of 15 (Value.int IntKind.u64 a); refine (Ka.out _).mono ?_; rintro e w' ⟨rfl, rfl⟩)
        | (go_at_call_of 15 (Value.int IntKind.u64 b); refine (Kb.out _).mono ?_; rintro e w' ⟨rfl, rfl⟩))
    all_goals (go_wp2_with fail; go_meet; exact ⟨rfl, rfl⟩)
  case rest =>
    obtain ⟨rfl, rfl⟩ := hcut
    have hK_0 : RB w m a b c (((w.alloc (.cells #[.int .u8 op, .int .u8 m, .int .u64 a, .int .u64 b, .int .u64 c] 36)).alloc (.cells #[.int .u64 0, .int .u8 0, .bool false] 33)).alloc (.cells #[.int .i64 3, .int .i64 0] 53)).drew := ((RB.start op).alloc _).drew
    go_wp2_with (first | (go_at_call_of 15 (Value.int IntKind.u64 c); refine (Kc.out _).mono ?_; rintro e w' ⟨rfl, rfl⟩) | (go_at_call 16; refine (bad_any _).mono ?_; rintro e w1 ⟨rfl, hb1⟩; obtain ⟨hc_, hf_⟩ := bcell1 hb1))
    all_goals refine bodyPost_ret (v := RES1 9221120237041090560 16 false) (by simp [results, Tryd.results37, go_sem, *]) rfl ⟨rfl, ?_⟩
    repeat' (first | with_reducible exact Below.refl _ _ | with_reducible assumption | with_reducible refine Below.drew ?_ | with_reducible refine bdrewN ?_ _ | with_reducible refine Below.alloc ?_ ?_ _ | with_reducible refine Below.setCell ?_ ?_ _ | with_reducible refine Below.trans ?_ (Below.mono (by assumption) ?_) | omega | (simp; done) | (simp; omega))
set_option maxRecDepth 100000 in
set_option maxHeartbeats 2000000 in
theorem fma_bad2 (op m a b c kc : Nat) (Ka : Hid (∀ W, Calls Tryd.prog 15 #[.int .u64 a] W fun e w' => e = .returned (.int .i64 0) ∧ W = w')) (Kb : Hid (∀ W, Calls Tryd.prog 15 #[.int .u64 b] W fun e w' => e = .returned (.int .i64 3) ∧ W = w')) (Kc : Hid (∀ W, Calls Tryd.prog 15 #[.int .u64 c] W fun e w' => e = .returned (.int .i64 (kc : Int)) ∧ W = w')) (w : World) :
    Calls Tryd.prog 37 #[REC op m a b c] w (SoftOut 9221120237041090560 16 false w) := by
  go_enter Tryd.func37, Tryd.ntmps37
  go_upto_region 1 with (fail)
  go_cut [3] (fun s wx => s = .pointer (some ⟨w.heap.size + 1 + 1, 0, none⟩) ∧ (((w.alloc (.cells #[.int .u8 op, .int .u8 m, .int .u64 a, .int .u64 b, .int .u64 c] 36)).alloc (.cells #[.int .u64 0, .int .u8 0, .bool false] 33)).alloc (.cells #[.int .i64 0, .int .i64 3] 53)).drew = wx)
  case first =>
    go_region_held3 (fun w' => (w'.cell? ⟨w.heap.size, 2, none⟩ = some (.int .u64 a) ∧ w'.cell? ⟨w.heap.size, 3, none⟩ = some (.int .u64 b)))
      (first
        | (refine ⟨?_, ?_⟩ <;> (go_simp; done))
        | go_keep)
      (first
        | (go_at_call_of 15 (Value.int IntKind.u64 a); refine (Ka.out _).mono ?_; rintro e w' ⟨rfl, rfl⟩)
        | (go_at_call_of 15 (Value.int IntKind.u64 b); refine (Kb.out _).mono ?_; rintro e w' ⟨rfl, rfl⟩))
    all_goals (go_wp2_with fail; go_meet; exact ⟨rfl, rfl⟩)
  case rest =>
    obtain ⟨rfl, rfl⟩ := hcut
    have hK_0 : RB w m a b c (((w.alloc (.cells #[.int .u8 op, .int .u8 m, .int .u64 a, .int .u64 b, .int .u64 c] 36)).alloc (.cells #[.int .u64 0, .int .u8 0, .bool false] 33)).alloc (.cells #[.int .i64 0, .int .i64 3] 53)).drew := ((RB.start op).alloc _).drew
    go_wp2_with (first | (go_at_call_of 15 (Value.int IntKind.u64 c); refine (Kc.out _).mono ?_; rintro e w' ⟨rfl, rfl⟩) | (go_at_call 16; refine (bad_any _).mono ?_; rintro e w1 ⟨rfl, hb1⟩; obtain ⟨hc_, hf_⟩ := bcell1 hb1))
    all_goals refine bodyPost_ret (v := RES1 9221120237041090560 16 false) (by simp [results, Tryd.results37, go_sem, *]) rfl ⟨rfl, ?_⟩
    repeat' (first | with_reducible exact Below.refl _ _ | with_reducible assumption | with_reducible refine Below.drew ?_ | with_reducible refine bdrewN ?_ _ | with_reducible refine Below.alloc ?_ ?_ _ | with_reducible refine Below.setCell ?_ ?_ _ | with_reducible refine Below.trans ?_ (Below.mono (by assumption) ?_) | omega | (simp; done) | (simp; omega))
set_option maxRecDepth 100000 in
set_option maxHeartbeats 2000000 in
theorem fma_i1 (op m a b c kb kc : Nat) (Ka : Hid (∀ W, Calls Tryd.prog 15 #[.int .u64 a] W fun e w' => e = .returned (.int .i64 3) ∧ W = w')) (Kb : Hid (∀ W, Calls Tryd.prog 15 #[.int .u64 b] W fun e w' => e = .returned (.int .i64 (kb : Int)) ∧ W = w')) (Kc : Hid (∀ W, Calls Tryd.prog 15 #[.int .u64 c] W fun e w' => e = .returned (.int .i64 (kc : Int)) ∧ W = w')) (sg : Nat) (hx : bits .and .u64 (bits .xor .u64 (a : Int) (b : Int)) 9223372036854775808 = sg) (bi : Nat) (hi : bits .or .u64 (sg : Int) 9218868437227405312 = bi) (bt fl : Nat) (AD : Hid (∀ W, Calls Tryd.prog 33 #[.agg #[.int .u8 0, .int .u8 m, .int .u64 bi, .int .u64 c, .int .u64 0]] W (SoftOut bt fl false W))) (hkb0 : ((kb : Int) == 0) = false) (w : World) :
    Calls Tryd.prog 37 #[REC op m a b c] w (SoftOut bt fl false w) := by
  go_enter Tryd.func37, Tryd.ntmps37
  go_upto_region 1 with (fail)
  go_cut [3] (fun s wx => s = .pointer (some ⟨w.heap.size + 1 + 1, 0, none⟩) ∧ (((w.alloc (.cells #[.int .u8 op, .int .u8 m, .int .u64 a, .int .u64 b, .int .u64 c] 36)).alloc (.cells #[.int .u64 0, .int .u8 0, .bool false] 33)).alloc (.cells #[.int .i64 3, .int .i64 (kb : Int)] 53)).drew = wx)
  case first =>
    go_region_held3 (fun w' => (w'.cell? ⟨w.heap.size, 2, none⟩ = some (.int .u64 a) ∧ w'.cell? ⟨w.heap.size, 3, none⟩ = some (.int .u64 b)))
      (first
        | (refine ⟨?_, ?_⟩ <;> (go_simp; done))
        | go_keep)
      (first
        | (go_at_call_of 15 (Value.int IntKind.u64 a); refine (Ka.out _).mono ?_; rintro e w' ⟨rfl, rfl⟩)
        | (go_at_call_of 15 (Value.int IntKind.u64 b); refine (Kb.out _).mono ?_; rintro e w' ⟨rfl, rfl⟩))
    all_goals (go_wp2_with fail; go_meet; exact ⟨rfl, rfl⟩)
  case rest =>
    obtain ⟨rfl, rfl⟩ := hcut
    have hK_0 : RB w m a b c (((w.alloc (.cells #[.int .u8 op, .int .u8 m, .int .u64 a, .int .u64 b, .int .u64 c] 36)).alloc (.cells #[.int .u64 0, .int .u8 0, .bool false] 33)).alloc (.cells #[.int .i64 3, .int .i64 (kb : Int)] 53)).drew := ((RB.start op).alloc _).drew
    go_wp2_with (go_at_call_of 15 (Value.int IntKind.u64 c); refine (Kc.out _).mono ?_; rintro e w' ⟨rfl, rfl⟩)
    refine (AD.out _).mono ?_
    rintro e w5 ⟨rfl, hb5⟩
    have hK5 := hK_0.step hb5
    have hL5 := hK5
    obtain ⟨_, ⟨k0, k1, k2⟩, ⟨f0, f1, f2⟩, _⟩ := hL5
    go_wp2_with fail
    refine bodyPost_ret (v := RES1 bt fl false) (by simp [results, Tryd.results37, go_sem, *]) rfl ⟨rfl, ?_⟩
    exact hK5.laid _ _ _
set_option maxRecDepth 100000 in
set_option maxHeartbeats 2000000 in
theorem fma_i2 (op m a b c ka kc : Nat) (Ka : Hid (∀ W, Calls Tryd.prog 15 #[.int .u64 a] W fun e w' => e = .returned (.int .i64 (ka : Int)) ∧ W = w')) (Kb : Hid (∀ W, Calls Tryd.prog 15 #[.int .u64 b] W fun e w' => e = .returned (.int .i64 3) ∧ W = w')) (Kc : Hid (∀ W, Calls Tryd.prog 15 #[.int .u64 c] W fun e w' => e = .returned (.int .i64 (kc : Int)) ∧ W = w')) (sg : Nat) (hx : bits .and .u64 (bits .xor .u64 (a : Int) (b : Int)) 9223372036854775808 = sg) (bi : Nat) (hi : bits .or .u64 (sg : Int) 9218868437227405312 = bi) (bt fl : Nat) (AD : Hid (∀ W, Calls Tryd.prog 33 #[.agg #[.int .u8 0, .int .u8 m, .int .u64 bi, .int .u64 c, .int .u64 0]] W (SoftOut bt fl false W))) (hka0 : ((ka : Int) == 0) = false) (hka3 : ((ka : Int) == 3) = false) (w : World) :
    Calls Tryd.prog 37 #[REC op m a b c] w (SoftOut bt fl false w) := by
  go_enter Tryd.func37, Tryd.ntmps37
  go_upto_region 1 with (fail)
  go_cut [3] (fun s wx => s = .pointer (some ⟨w.heap.size + 1 + 1, 0, none⟩) ∧ (((w.alloc (.cells #[.int .u8 op, .int .u8 m, .int .u64 a, .int .u64 b, .int .u64 c] 36)).alloc (.cells #[.int .u64 0, .int .u8 0, .bool false] 33)).alloc (.cells #[.int .i64 (ka : Int), .int .i64 3] 53)).drew = wx)
  case first =>
    go_region_held3 (fun w' => (w'.cell? ⟨w.heap.size, 2, none⟩ = some (.int .u64 a) ∧ w'.cell? ⟨w.heap.size, 3, none⟩ = some (.int .u64 b)))
      (first
        | (refine ⟨?_, ?_⟩ <;> (go_simp; done))
        | go_keep)
      (first
        | (go_at_call_of 15 (Value.int IntKind.u64 a); refine (Ka.out _).mono ?_; rintro e w' ⟨rfl, rfl⟩)
        | (go_at_call_of 15 (Value.int IntKind.u64 b); refine (Kb.out _).mono ?_; rintro e w' ⟨rfl, rfl⟩))
    all_goals (go_wp2_with fail; go_meet; exact ⟨rfl, rfl⟩)
  case rest =>
    obtain ⟨rfl, rfl⟩ := hcut
    have hK_0 : RB w m a b c (((w.alloc (.cells #[.int .u8 op, .int .u8 m, .int .u64 a, .int .u64 b, .int .u64 c] 36)).alloc (.cells #[.int .u64 0, .int .u8 0, .bool false] 33)).alloc (.cells #[.int .i64 (ka : Int), .int .i64 3] 53)).drew := ((RB.start op).alloc _).drew
    go_wp2_with (go_at_call_of 15 (Value.int IntKind.u64 c); refine (Kc.out _).mono ?_; rintro e w' ⟨rfl, rfl⟩)
    refine (AD.out _).mono ?_
    rintro e w5 ⟨rfl, hb5⟩
    have hK5 := hK_0.step hb5
    have hL5 := hK5
    obtain ⟨_, ⟨k0, k1, k2⟩, ⟨f0, f1, f2⟩, _⟩ := hL5
    go_wp2_with fail
    refine bodyPost_ret (v := RES1 bt fl false) (by simp [results, Tryd.results37, go_sem, *]) rfl ⟨rfl, ?_⟩
    exact hK5.laid _ _ _
set_option maxRecDepth 100000 in
set_option maxHeartbeats 2000000 in
theorem fma_c3 (op m a b c ka kb : Nat) (Ka : Hid (∀ W, Calls Tryd.prog 15 #[.int .u64 a] W fun e w' => e = .returned (.int .i64 (ka : Int)) ∧ W = w')) (Kb : Hid (∀ W, Calls Tryd.prog 15 #[.int .u64 b] W fun e w' => e = .returned (.int .i64 (kb : Int)) ∧ W = w')) (Kc : Hid (∀ W, Calls Tryd.prog 15 #[.int .u64 c] W fun e w' => e = .returned (.int .i64 3) ∧ W = w')) (hka3 : ((ka : Int) == 3) = false) (hkb3 : ((kb : Int) == 3) = false) (w : World) :
    Calls Tryd.prog 37 #[REC op m a b c] w (SoftOut c 0 false w) := by
  go_enter Tryd.func37, Tryd.ntmps37
  go_upto_region 1 with (fail)
  go_cut [3] (fun s wx => s = .pointer (some ⟨w.heap.size + 1 + 1, 0, none⟩) ∧ (((w.alloc (.cells #[.int .u8 op, .int .u8 m, .int .u64 a, .int .u64 b, .int .u64 c] 36)).alloc (.cells #[.int .u64 0, .int .u8 0, .bool false] 33)).alloc (.cells #[.int .i64 (ka : Int), .int .i64 (kb : Int)] 53)).drew = wx)
  case first =>
    go_region_held3 (fun w' => (w'.cell? ⟨w.heap.size, 2, none⟩ = some (.int .u64 a) ∧ w'.cell? ⟨w.heap.size, 3, none⟩ = some (.int .u64 b)))
      (first
        | (refine ⟨?_, ?_⟩ <;> (go_simp; done))
        | go_keep)
      (first
        | (go_at_call_of 15 (Value.int IntKind.u64 a); refine (Ka.out _).mono ?_; rintro e w' ⟨rfl, rfl⟩)
        | (go_at_call_of 15 (Value.int IntKind.u64 b); refine (Kb.out _).mono ?_; rintro e w' ⟨rfl, rfl⟩))
    all_goals (go_wp2_with fail; go_meet; exact ⟨rfl, rfl⟩)
  case rest =>
    obtain ⟨rfl, rfl⟩ := hcut
    have hK_0 : RB w m a b c (((w.alloc (.cells #[.int .u8 op, .int .u8 m, .int .u64 a, .int .u64 b, .int .u64 c] 36)).alloc (.cells #[.int .u64 0, .int .u8 0, .bool false] 33)).alloc (.cells #[.int .i64 (ka : Int), .int .i64 (kb : Int)] 53)).drew := ((RB.start op).alloc _).drew
    go_wp2_with (first | (go_at_call_of 15 (Value.int IntKind.u64 c); refine (Kc.out _).mono ?_; rintro e w' ⟨rfl, rfl⟩) | (go_at_call 16; refine (bad_any _).mono ?_; rintro e w1 ⟨rfl, hb1⟩; obtain ⟨hc_, hf_⟩ := bcell1 hb1))
    all_goals refine bodyPost_ret (v := RES1 c 0 false) (by simp [results, Tryd.results37, go_sem, *]) rfl ⟨rfl, ?_⟩
    repeat' (first | with_reducible exact Below.refl _ _ | with_reducible assumption | with_reducible refine Below.drew ?_ | with_reducible refine bdrewN ?_ _ | with_reducible refine Below.alloc ?_ ?_ _ | with_reducible refine Below.setCell ?_ ?_ _ | with_reducible refine Below.trans ?_ (Below.mono (by assumption) ?_) | omega | (simp; done) | (simp; omega))
set_option maxRecDepth 100000 in
set_option maxHeartbeats 2000000 in
theorem fma_go (op m a b c ka kb kc : Nat) (Ka : Hid (∀ W, Calls Tryd.prog 15 #[.int .u64 a] W fun e w' => e = .returned (.int .i64 (ka : Int)) ∧ W = w')) (Kb : Hid (∀ W, Calls Tryd.prog 15 #[.int .u64 b] W fun e w' => e = .returned (.int .i64 (kb : Int)) ∧ W = w')) (Kc : Hid (∀ W, Calls Tryd.prog 15 #[.int .u64 c] W fun e w' => e = .returned (.int .i64 (kc : Int)) ∧ W = w')) (na nb nc ng : Bool) (ea eb ec eg : Int) (sa sb sc sq bt fl : Nat) (Ua : Hid (∀ W, Calls Tryd.prog 44 #[.int .u64 a] W fun e w' => e = .returned (NV na ea sa false) ∧ Below W.heap.size W w')) (Ub : Hid (∀ W, Calls Tryd.prog 44 #[.int .u64 b] W fun e w' => e = .returned (NV nb eb sb false) ∧ Below W.heap.size W w')) (Uc : Hid (∀ W, Calls Tryd.prog 44 #[.int .u64 c] W fun e w' => e = .returned (NV nc ec sc false) ∧ Below W.heap.size W w')) (T : Hid (∀ W, Calls Tryd.prog 45 #[NV na ea sa false, NV nb eb sb false] W fun e w' => e = .returned (NV ng eg sq false) ∧ Below W.heap.size W w')) (R : Hid (∀ W, Calls Tryd.prog 43 #[NV ng eg sq false, NV nc ec sc false, .int .u8 m] W (SoftOut bt fl false W))) (hka3 : ((ka : Int) == 3) = false) (hkb3 : ((kb : Int) == 3) = false) (hkc3 : ((kc : Int) == 3) = false) (w : World) :
    Calls Tryd.prog 37 #[REC op m a b c] w (SoftOut bt fl false w) := by
  go_enter Tryd.func37, Tryd.ntmps37
  go_upto_region 1 with (fail)
  go_cut [3] (fun s wx => s = .pointer (some ⟨w.heap.size + 1 + 1, 0, none⟩) ∧ (((w.alloc (.cells #[.int .u8 op, .int .u8 m, .int .u64 a, .int .u64 b, .int .u64 c] 36)).alloc (.cells #[.int .u64 0, .int .u8 0, .bool false] 33)).alloc (.cells #[.int .i64 (ka : Int), .int .i64 (kb : Int)] 53)).drew = wx)
  case first =>
    go_region_held3 (fun w' => (w'.cell? ⟨w.heap.size, 2, none⟩ = some (.int .u64 a) ∧ w'.cell? ⟨w.heap.size, 3, none⟩ = some (.int .u64 b)))
      (first
        | (refine ⟨?_, ?_⟩ <;> (go_simp; done))
        | go_keep)
      (first
        | (go_at_call_of 15 (Value.int IntKind.u64 a); refine (Ka.out _).mono ?_; rintro e w' ⟨rfl, rfl⟩)
        | (go_at_call_of 15 (Value.int IntKind.u64 b); refine (Kb.out _).mono ?_; rintro e w' ⟨rfl, rfl⟩))
    all_goals (go_wp2_with fail; go_meet; exact ⟨rfl, rfl⟩)
  case rest =>
    obtain ⟨rfl, rfl⟩ := hcut
    have hK_0 : RB w m a b c (((w.alloc (.cells #[.int .u8 op, .int .u8 m, .int .u64 a, .int .u64 b, .int .u64 c] 36)).alloc (.cells #[.int .u64 0, .int .u8 0, .bool false] 33)).alloc (.cells #[.int .i64 (ka : Int), .int .i64 (kb : Int)] 53)).drew := ((RB.start op).alloc _).drew
    go_upto_region 9 with (go_at_call_of 15 (Value.int IntKind.u64 c); refine (Kc.out _).mono ?_; rintro e w' ⟨rfl, rfl⟩)
    go_region_held3 (fun w' => (w'.cell? ⟨w.heap.size, 1, none⟩ = some (.int .u8 m) ∧ w'.cell? ⟨w.heap.size, 2, none⟩ = some (.int .u64 a) ∧ w'.cell? ⟨w.heap.size, 3, none⟩ = some (.int .u64 b) ∧ w'.cell? ⟨w.heap.size, 4, none⟩ = some (.int .u64 c)))
      (first
        | exact hS_w5
        | exact hS_w4
        | exact hS_w3
        | exact hS_w2
        | exact hS_w1
        | exact hK_0.1
        | go_keep)
      (first
        | (go_at_call_of 44 (Value.int IntKind.u64 a); refine (Ua.out _).mono ?_; rintro e w1 ⟨rfl, hb1⟩; have hK_w1 : RB w m a b c w1 := RB.step (by (repeat' (first | with_reducible assumption | refine RB.drew ?_ | refine RB.alloc ?_ _))) hb1; have hL_w1 := hK_w1; obtain ⟨hS_w1, ⟨hk0_w1, hk1_w1, hk2_w1⟩, ⟨hg0_w1, hg1_w1, hg2_w1⟩, _⟩ := hL_w1)
        | (go_at_call_of 44 (Value.int IntKind.u64 b); refine (Ub.out _).mono ?_; rintro e w2 ⟨rfl, hb2⟩; have hK_w2 : RB w m a b c w2 := RB.step (by (repeat' (first | with_reducible assumption | refine RB.drew ?_ | refine RB.alloc ?_ _))) hb2; have hL_w2 := hK_w2; obtain ⟨hS_w2, ⟨hk0_w2, hk1_w2, hk2_w2⟩, ⟨hg0_w2, hg1_w2, hg2_w2⟩, _⟩ := hL_w2)
        | (go_at_call 45; refine (T.out _).mono ?_; rintro e w3 ⟨rfl, hb3⟩; have hK_w3 : RB w m a b c w3 := RB.step (by (repeat' (first | with_reducible assumption | refine RB.drew ?_ | refine RB.alloc ?_ _))) hb3; have hL_w3 := hK_w3; obtain ⟨hS_w3, ⟨hk0_w3, hk1_w3, hk2_w3⟩, ⟨hg0_w3, hg1_w3, hg2_w3⟩, _⟩ := hL_w3)
        | (go_at_call_of 44 (Value.int IntKind.u64 c); refine (Uc.out _).mono ?_; rintro e w4 ⟨rfl, hb4⟩; have hK_w4 : RB w m a b c w4 := RB.step (by (repeat' (first | with_reducible assumption | refine RB.drew ?_ | refine RB.alloc ?_ _))) hb4; have hL_w4 := hK_w4; obtain ⟨hS_w4, ⟨hk0_w4, hk1_w4, hk2_w4⟩, ⟨hg0_w4, hg1_w4, hg2_w4⟩, _⟩ := hL_w4)
        | (go_at_call 43; refine (R.out _).mono ?_; rintro e w5 ⟨rfl, hb5⟩; have hK_w5 : RB w m a b c w5 := RB.step (by (repeat' (first | with_reducible assumption | refine RB.drew ?_ | refine RB.alloc ?_ _))) hb5; have hL_w5 := hK_w5; obtain ⟨hS_w5, ⟨hk0_w5, hk1_w5, hk2_w5⟩, ⟨hg0_w5, hg1_w5, hg2_w5⟩, _⟩ := hL_w5))
    go_wp2_with fail
    refine bodyPost_ret (v := RES1 bt fl false) (by simp [results, Tryd.results37, go_sem, *]) rfl ⟨rfl, ?_⟩
    exact hK_w5.laid _ _ _
end Go.Proofs.YtldmbneckcjonabDoor
namespace Go.Proofs.YtldmbneckcjonabDoor
open Go.RowKit
theorem inf_kind (g : Bool) : kindN (signN g + 9218868437227405312) = 3 := by cases g <;> decide
theorem inf_u (g : Bool) : U64 (signN g + 9218868437227405312) := by cases g <;> (unfold U64; decide)
theorem bl_sigmul (a b : Nat) : bl (sigU a * sigU b) ≤ 106 := by
  have h1 := lt_two_bl (sigU a)
  have h2 := bl_sigU a
  have h3 := bl_sigU b
  have h4 := sigU_lt a
  have h5 := sigU_lt b
  have h6 : sigU a * sigU b ≤ 9007199254740992 * 9007199254740992 := Nat.mul_le_mul (by omega) (by omega)
  rcases Nat.eq_zero_or_pos (sigU a * sigU b) with h | h
  · rw [h, bl_zero]; omega
  · rw [bl_le]
    have h7 : sigU a * sigU b < 9007199254740992 * 9007199254740992 := Nat.mul_lt_mul_of_lt_of_lt h4 h5
    exact Nat.lt_of_lt_of_le h7 (by decide)
theorem fma_any (op m a b c : Nat) (hm : m < 5) (ua : U64 a) (ub : U64 b) (uc : U64 c) (ka : kindN a < 4) (kb : kindN b < 4) (kc : kindN c < 4) (w : World) : Calls Tryd.prog 37 #[REC op m a b c] w (SoftOut (fmaS m a b c).1 (fmaS m a b c).2 false w) := by
  have Ka := Lib.hid (fun W => kindOf_any a W)
  have Kb := Lib.hid (fun W => kindOf_any b W)
  have Kc := Lib.hid (fun W => kindOf_any c W)
  have hx := xor_sign ua ub
  have hor := or_sign (negU a != negU b) 9218868437227405312 (by omega)
  have hik := inf_kind (negU a != negU b)
  have hiu := inf_u (negU a != negU b)
  by_cases h1 : kindN a = 3 ∧ kindN b = 0
  · have e : fmaS m a b c = (9221120237041090560, 16) := by unfold fmaS; rw [if_pos (.inl h1)]
    rw [e]; rw [h1.1] at Ka; rw [h1.2] at Kb
    exact fma_bad1 op m a b c _ Ka Kb Kc w
  · by_cases h2 : kindN a = 0 ∧ kindN b = 3
    · have e : fmaS m a b c = (9221120237041090560, 16) := by unfold fmaS; rw [if_pos (.inr h2)]
      rw [e]; rw [h2.1] at Ka; rw [h2.2] at Kb
      exact fma_bad2 op m a b c _ Ka Kb Kc w
    · have e0 : fmaS m a b c = if kindN a = 3 ∨ kindN b = 3 then addS m (signN (negU a != negU b) + 9218868437227405312) c
          else if kindN c = 3 then (c, 0)
          else addedV m (negU a != negU b) (negU c) (val (exN a * exN b) (exE a + exE b)) (val (exN c) (exE c)) := by unfold fmaS; rw [if_neg (by omega)]
      rw [e0]
      generalize hbi : signN (negU a != negU b) + 9218868437227405312 = bi at *
      have AD : Hid (∀ W, Calls Tryd.prog 33 #[.agg #[.int .u8 0, .int .u8 m, .int .u64 bi, .int .u64 c, .int .u64 0]] W (SoftOut (addS m bi c).1 (addS m bi c).2 false W)) := fun W => add_any 0 m bi c 0 hm hiu uc (by omega) kc W
      by_cases h3 : kindN a = 3
      · rw [if_pos (.inl h3)]
        rw [h3] at Ka
        exact fma_i1 op m a b c _ _ Ka Kb Kc _ hx _ hor _ _ AD (nef (n := 0) (by omega)) w
      · by_cases h4 : kindN b = 3
        · rw [if_pos (.inr h4)]
          rw [h4] at Kb
          exact fma_i2 op m a b c _ _ Ka Kb Kc _ hx _ hor _ _ AD (nef (n := 0) (by omega)) (nef (n := 3) h3) w
        · rw [if_neg (by omega)]
          by_cases h5 : kindN c = 3
          · rw [if_pos h5]
            rw [h5] at Kc
            exact fma_c3 op m a b c _ _ Ka Kb Kc (nef (n := 3) h3) (nef (n := 3) h4) w
          · rw [if_neg h5, ← val_mul, ← val_norm c]
            have c1 := expU_bounds a
            have c2 := expU_bounds b
            have c3 := expU_bounds c
            have d1 := bl_sigmul a b
            have d2 := bl_sigU c
            exact fma_go op m a b c _ _ _ Ka Kb Kc _ _ _ _ _ _ _ _ _ _ _ _ _ _ (fun W => unpack_any a ua W) (fun W => unpack_any b ub W) (fun W => unpack_any c uc W) (fun W => times_sig W)
              (fun W => summed_any _ _ _ _ _ _ m hm (by omega) (by omega) (by omega) (by omega) (by omega) (by omega) W) (nef (n := 3) h3) (nef (n := 3) h4) (nef (n := 3) h5) w
end Go.Proofs.YtldmbneckcjonabDoor
