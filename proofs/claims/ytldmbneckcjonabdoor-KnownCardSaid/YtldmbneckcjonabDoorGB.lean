/- Several texts in one: wide.Shl at four words: the number times 2^k, as far as there is room. The argument is below 2^256, k is not below 0 (and below 2^32). · wide.Shr at four words: the number divided by 2^k, and whether something is left. The argument is below 2^256, k is not below 0 (and below 2^32). · wide.Shr by 256 and more: nothing stays. -/
import Derived.Handy
import Derived.RegionTactic
import Derived.BigRegion
import Derived.Deep.QuietTactic
import Derived.Deep.RegionHeld3
import Derived.Lib.Hide
import Derived.Test.YtldmbneckcjonabDoorGA
set_option linter.unusedVariables false
set_option linter.unusedSimpArgs false
namespace Go.Proofs.YtldmbneckcjonabDoor
open Go.RowKit
attribute [local go_sem] isW_wd isW_zero isC_zero wd_u64 wrap_sL div_sH or_sLH wrap_wd
set_option maxRecDepth 100000 in
set_option maxHeartbeats 400000 in
theorem Shl_0p (a : Nat) (ha : U256 a) (k : Int) (h0 : 0 ≤ k) (hq : k / 64 = 0) (r : Nat) (hr : k % 64 = r) (hr1 : 0 < r) (hr2 : r < 64) (w : World) :
    Calls Tryd.prog 48 #[W4 a, .int .i64 k] w fun e w' => e = .returned (W4 (a * 2 ^ (0 + r) % 2 ^ 256)) ∧ Below w.heap.size w w' := by
  have e := shl_0 ha hr2
  rw [e]; clear e
  go_enter Tryd.func48, Tryd.ntmps48
  go_wp2
  refine wp_loop_rounds 5 ?_
  rw [rounds_succ]
  go_wp2
  rw [rounds_succ]
  go_wp2
  go_region
  go_wp2
  rw [rounds_succ]
  go_wp2
  go_region
  go_wp2
  rw [rounds_succ]
  go_wp2
  go_region
  go_wp2
  rw [rounds_succ]
  go_wp2
  refine bodyPost_ret (v := .agg #[_, _, _, _]) (by simp [results, Tryd.results48, go_sem]) rfl ⟨rfl, ?_⟩
  repeat' (first | with_reducible exact Below.refl _ _ | with_reducible assumption | with_reducible refine Below.drew ?_ | with_reducible refine bdrewN ?_ _ | with_reducible refine Below.alloc ?_ ?_ _ | with_reducible refine Below.setCell ?_ ?_ _ | with_reducible refine Below.trans ?_ (Below.mono (by assumption) ?_) | omega | (simp; done) | (simp; omega))
set_option maxRecDepth 100000 in
set_option maxHeartbeats 400000 in
theorem Shl_0z (a : Nat) (ha : U256 a) (k : Int) (h0 : 0 ≤ k) (hq : k / 64 = 0) (hr : k % 64 = 0) (w : World) :
    Calls Tryd.prog 48 #[W4 a, .int .i64 k] w fun e w' => e = .returned (W4 (a * 2 ^ (0 + 0) % 2 ^ 256)) ∧ Below w.heap.size w w' := by
  have e := shl_0 ha (r := 0) (by decide)
  rw [sL_0 (wd_u64 _ _), sLH_0 (wd_u64 _ _) (wd_u64 _ _), sLH_0 (wd_u64 _ _) (wd_u64 _ _), sLH_0 (wd_u64 _ _) (wd_u64 _ _)] at e
  rw [e]; clear e
  go_enter Tryd.func48, Tryd.ntmps48
  go_wp2
  refine wp_loop_rounds 5 ?_
  rw [rounds_succ]
  go_wp2
  rw [rounds_succ]
  go_wp2
  rw [rounds_succ]
  go_wp2
  rw [rounds_succ]
  go_wp2
  rw [rounds_succ]
  go_wp2
  refine bodyPost_ret (v := .agg #[_, _, _, _]) (by simp [results, Tryd.results48, go_sem]) rfl ⟨rfl, ?_⟩
  repeat' (first | with_reducible exact Below.refl _ _ | with_reducible assumption | with_reducible refine Below.drew ?_ | with_reducible refine bdrewN ?_ _ | with_reducible refine Below.alloc ?_ ?_ _ | with_reducible refine Below.setCell ?_ ?_ _ | with_reducible refine Below.trans ?_ (Below.mono (by assumption) ?_) | omega | (simp; done) | (simp; omega))
set_option maxRecDepth 100000 in
set_option maxHeartbeats 400000 in
theorem Shl_1p (a : Nat) (ha : U256 a) (k : Int) (h0 : 0 ≤ k) (hq : k / 64 = 1) (r : Nat) (hr : k % 64 = r) (hr1 : 0 < r) (hr2 : r < 64) (w : World) :
    Calls Tryd.prog 48 #[W4 a, .int .i64 k] w fun e w' => e = .returned (W4 (a * 2 ^ (64 + r) % 2 ^ 256)) ∧ Below w.heap.size w w' := by
  have e := shl_1 ha hr2
  rw [e]; clear e
  go_enter Tryd.func48, Tryd.ntmps48
  go_wp2
  refine wp_loop_rounds 5 ?_
  rw [rounds_succ]
  go_wp2
  rw [rounds_succ]
  go_wp2
  rw [rounds_succ]
  go_wp2
  go_region
  go_wp2
  rw [rounds_succ]
  go_wp2
  go_region
  go_wp2
  rw [rounds_succ]
  go_wp2
  refine bodyPost_ret (v := .agg #[_, _, _, _]) (by simp [results, Tryd.results48, go_sem]) rfl ⟨rfl, ?_⟩
  repeat' (first | with_reducible exact Below.refl _ _ | with_reducible assumption | with_reducible refine Below.drew ?_ | with_reducible refine bdrewN ?_ _ | with_reducible refine Below.alloc ?_ ?_ _ | with_reducible refine Below.setCell ?_ ?_ _ | with_reducible refine Below.trans ?_ (Below.mono (by assumption) ?_) | omega | (simp; done) | (simp; omega))
set_option maxRecDepth 100000 in
set_option maxHeartbeats 400000 in
theorem Shl_1z (a : Nat) (ha : U256 a) (k : Int) (h0 : 0 ≤ k) (hq : k / 64 = 1) (hr : k % 64 = 0) (w : World) :
    Calls Tryd.prog 48 #[W4 a, .int .i64 k] w fun e w' => e = .returned (W4 (a * 2 ^ (64 + 0) % 2 ^ 256)) ∧ Below w.heap.size w w' := by
  have e := shl_1 ha (r := 0) (by decide)
  rw [sL_0 (wd_u64 _ _), sLH_0 (wd_u64 _ _) (wd_u64 _ _), sLH_0 (wd_u64 _ _) (wd_u64 _ _)] at e
  rw [e]; clear e
  go_enter Tryd.func48, Tryd.ntmps48
  go_wp2
  refine wp_loop_rounds 5 ?_
  rw [rounds_succ]
  go_wp2
  rw [rounds_succ]
  go_wp2
  rw [rounds_succ]
  go_wp2
  rw [rounds_succ]
  go_wp2
  rw [rounds_succ]
  go_wp2
  refine bodyPost_ret (v := .agg #[_, _, _, _]) (by simp [results, Tryd.results48, go_sem]) rfl ⟨rfl, ?_⟩
  repeat' (first | with_reducible exact Below.refl _ _ | with_reducible assumption | with_reducible refine Below.drew ?_ | with_reducible refine bdrewN ?_ _ | with_reducible refine Below.alloc ?_ ?_ _ | with_reducible refine Below.setCell ?_ ?_ _ | with_reducible refine Below.trans ?_ (Below.mono (by assumption) ?_) | omega | (simp; done) | (simp; omega))
set_option maxRecDepth 100000 in
set_option maxHeartbeats 400000 in
theorem Shl_2p (a : Nat) (ha : U256 a) (k : Int) (h0 : 0 ≤ k) (hq : k / 64 = 2) (r : Nat) (hr : k % 64 = r) (hr1 : 0 < r) (hr2 : r < 64) (w : World) :
    Calls Tryd.prog 48 #[W4 a, .int .i64 k] w fun e w' => e = .returned (W4 (a * 2 ^ (128 + r) % 2 ^ 256)) ∧ Below w.heap.size w w' := by
  have e := shl_2 ha hr2
  rw [e]; clear e
  go_enter Tryd.func48, Tryd.ntmps48
  go_wp2
  refine wp_loop_rounds 5 ?_
  rw [rounds_succ]
  go_wp2
  rw [rounds_succ]
  go_wp2
  rw [rounds_succ]
  go_wp2
  rw [rounds_succ]
  go_wp2
  go_region
  go_wp2
  rw [rounds_succ]
  go_wp2
  refine bodyPost_ret (v := .agg #[_, _, _, _]) (by simp [results, Tryd.results48, go_sem]) rfl ⟨rfl, ?_⟩
  repeat' (first | with_reducible exact Below.refl _ _ | with_reducible assumption | with_reducible refine Below.drew ?_ | with_reducible refine bdrewN ?_ _ | with_reducible refine Below.alloc ?_ ?_ _ | with_reducible refine Below.setCell ?_ ?_ _ | with_reducible refine Below.trans ?_ (Below.mono (by assumption) ?_) | omega | (simp; done) | (simp; omega))
set_option maxRecDepth 100000 in
set_option maxHeartbeats 400000 in
theorem Shl_2z (a : Nat) (ha : U256 a) (k : Int) (h0 : 0 ≤ k) (hq : k / 64 = 2) (hr : k % 64 = 0) (w : World) :
    Calls Tryd.prog 48 #[W4 a, .int .i64 k] w fun e w' => e = .returned (W4 (a * 2 ^ (128 + 0) % 2 ^ 256)) ∧ Below w.heap.size w w' := by
  have e := shl_2 ha (r := 0) (by decide)
  rw [sL_0 (wd_u64 _ _), sLH_0 (wd_u64 _ _) (wd_u64 _ _)] at e
  rw [e]; clear e
  go_enter Tryd.func48, Tryd.ntmps48
  go_wp2
  refine wp_loop_rounds 5 ?_
  rw [rounds_succ]
  go_wp2
  rw [rounds_succ]
  go_wp2
  rw [rounds_succ]
  go_wp2
  rw [rounds_succ]
  go_wp2
  rw [rounds_succ]
  go_wp2
  refine bodyPost_ret (v := .agg #[_, _, _, _]) (by simp [results, Tryd.results48, go_sem]) rfl ⟨rfl, ?_⟩
  repeat' (first | with_reducible exact Below.refl _ _ | with_reducible assumption | with_reducible refine Below.drew ?_ | with_reducible refine bdrewN ?_ _ | with_reducible refine Below.alloc ?_ ?_ _ | with_reducible refine Below.setCell ?_ ?_ _ | with_reducible refine Below.trans ?_ (Below.mono (by assumption) ?_) | omega | (simp; done) | (simp; omega))
set_option maxRecDepth 100000 in
set_option maxHeartbeats 400000 in
theorem Shl_3p (a : Nat) (ha : U256 a) (k : Int) (h0 : 0 ≤ k) (hq : k / 64 = 3) (r : Nat) (hr : k % 64 = r) (hr1 : 0 < r) (hr2 : r < 64) (w : World) :
    Calls Tryd.prog 48 #[W4 a, .int .i64 k] w fun e w' => e = .returned (W4 (a * 2 ^ (192 + r) % 2 ^ 256)) ∧ Below w.heap.size w w' := by
  have e := shl_3 ha hr2
  rw [e]; clear e
  go_enter Tryd.func48, Tryd.ntmps48
  go_wp2
  refine wp_loop_rounds 5 ?_
  rw [rounds_succ]
  go_wp2
  rw [rounds_succ]
  go_wp2
  rw [rounds_succ]
  go_wp2
  rw [rounds_succ]
  go_wp2
  rw [rounds_succ]
  go_wp2
  refine bodyPost_ret (v := .agg #[_, _, _, _]) (by simp [results, Tryd.results48, go_sem]) rfl ⟨rfl, ?_⟩
  repeat' (first | with_reducible exact Below.refl _ _ | with_reducible assumption | with_reducible refine Below.drew ?_ | with_reducible refine bdrewN ?_ _ | with_reducible refine Below.alloc ?_ ?_ _ | with_reducible refine Below.setCell ?_ ?_ _ | with_reducible refine Below.trans ?_ (Below.mono (by assumption) ?_) | omega | (simp; done) | (simp; omega))
set_option maxRecDepth 100000 in
set_option maxHeartbeats 400000 in
theorem Shl_3z (a : Nat) (ha : U256 a) (k : Int) (h0 : 0 ≤ k) (hq : k / 64 = 3) (hr : k % 64 = 0) (w : World) :
    Calls Tryd.prog 48 #[W4 a, .int .i64 k] w fun e w' => e = .returned (W4 (a * 2 ^ (192 + 0) % 2 ^ 256)) ∧ Below w.heap.size w w' := by
  have e := shl_3 ha (r := 0) (by decide)
  rw [sL_0 (wd_u64 _ _)] at e
  rw [e]; clear e
  go_enter Tryd.func48, Tryd.ntmps48
  go_wp2
  refine wp_loop_rounds 5 ?_
  rw [rounds_succ]
  go_wp2
  rw [rounds_succ]
  go_wp2
  rw [rounds_succ]
  go_wp2
  rw [rounds_succ]
  go_wp2
  rw [rounds_succ]
  go_wp2
  refine bodyPost_ret (v := .agg #[_, _, _, _]) (by simp [results, Tryd.results48, go_sem]) rfl ⟨rfl, ?_⟩
  repeat' (first | with_reducible exact Below.refl _ _ | with_reducible assumption | with_reducible refine Below.drew ?_ | with_reducible refine bdrewN ?_ _ | with_reducible refine Below.alloc ?_ ?_ _ | with_reducible refine Below.setCell ?_ ?_ _ | with_reducible refine Below.trans ?_ (Below.mono (by assumption) ?_) | omega | (simp; done) | (simp; omega))
set_option maxRecDepth 100000 in
set_option maxHeartbeats 400000 in
theorem Shl_big (a : Nat) (k : Int) (h : 256 ≤ k) (hk : k < 4294967296) (w : World) :
    Calls Tryd.prog 48 #[W4 a, .int .i64 k] w fun e w' => e = .returned (W4 (a * 2 ^ k.toNat % 2 ^ 256)) ∧ Below w.heap.size w w' := by
  have e := shl_big a (k := k.toNat) (by omega)
  rw [e]; clear e
  go_enter Tryd.func48, Tryd.ntmps48
  go_wp2
  refine wp_loop_rounds 5 ?_
  rw [rounds_succ]
  go_wp2
  rw [rounds_succ]
  go_wp2
  rw [rounds_succ]
  go_wp2
  rw [rounds_succ]
  go_wp2
  rw [rounds_succ]
  go_wp2
  refine bodyPost_ret (v := .agg #[_, _, _, _]) (by simp [results, Tryd.results48, go_sem]) rfl ⟨rfl, ?_⟩
  repeat' (first | with_reducible exact Below.refl _ _ | with_reducible assumption | with_reducible refine Below.drew ?_ | with_reducible refine bdrewN ?_ _ | with_reducible refine Below.alloc ?_ ?_ _ | with_reducible refine Below.setCell ?_ ?_ _ | with_reducible refine Below.trans ?_ (Below.mono (by assumption) ?_) | omega | (simp; done) | (simp; omega))
theorem Shl_any (a : Nat) (ha : U256 a) (k : Int) (h0 : 0 ≤ k) (hk : k < 4294967296) (w : World) :
    Calls Tryd.prog 48 #[W4 a, .int .i64 k] w fun e w' => e = .returned (W4 (shlN a k.toNat)) ∧ Below w.heap.size w w' := by
  rw [shlN_def]
  by_cases hb : 256 ≤ k
  · exact Shl_big a k hb hk w
  have hr : k % 64 = ((k % 64).toNat : Int) := by omega
  have hq : k / 64 = 0 ∨ k / 64 = 1 ∨ k / 64 = 2 ∨ k / 64 = 3 := by omega
  by_cases hz : k % 64 = 0
  · rcases hq with hq | hq | hq | hq
    · rw [show k.toNat = 0 + 0 from by omega]; exact Shl_0z a ha k h0 hq hz w
    · rw [show k.toNat = 64 + 0 from by omega]; exact Shl_1z a ha k h0 hq hz w
    · rw [show k.toNat = 128 + 0 from by omega]; exact Shl_2z a ha k h0 hq hz w
    · rw [show k.toNat = 192 + 0 from by omega]; exact Shl_3z a ha k h0 hq hz w
  · rcases hq with hq | hq | hq | hq
    · rw [show k.toNat = 0 + (k % 64).toNat from by omega]; exact Shl_0p a ha k h0 hq _ hr (by omega) (by omega) w
    · rw [show k.toNat = 64 + (k % 64).toNat from by omega]; exact Shl_1p a ha k h0 hq _ hr (by omega) (by omega) w
    · rw [show k.toNat = 128 + (k % 64).toNat from by omega]; exact Shl_2p a ha k h0 hq _ hr (by omega) (by omega) w
    · rw [show k.toNat = 192 + (k % 64).toNat from by omega]; exact Shl_3p a ha k h0 hq _ hr (by omega) (by omega) w
end Go.Proofs.YtldmbneckcjonabDoor
namespace Go.Proofs.YtldmbneckcjonabDoor
open Go.RowKit
attribute [local go_sem] isW_wd isW_zero isC_zero wd_u64 wrap_sL div_sH or_sLH wrap_wd div_down or_down eqW_run shlN_u256
theorem bcell {W w1 : World} (hb : Below W.heap.size W w1) : (∀ b o, b < W.heap.size → w1.cell? ⟨b, o, none⟩ = W.cell? ⟨b, o, none⟩) ∧ (∀ b o, b < W.heap.size → w1.frozen? ⟨b, o, none⟩ = W.frozen? ⟨b, o, none⟩) :=
  ⟨fun b o h => hb.cell (p := ⟨b, o, none⟩) h, fun b o h => hb.frozen (p := ⟨b, o, none⟩) h⟩
set_option maxRecDepth 100000 in
set_option maxHeartbeats 4000000 in
theorem Shr_0p (a : Nat) (ha : U256 a) (k : Int) (h0 : 0 ≤ k) (hk : k < 256) (hq : k / 64 = 0) (r : Nat) (hr : k % 64 = r) (hr1 : 0 < r) (hr2 : r < 64) (b : Nat) (hu : U256 b) (e : W4 b = .agg #[.int .u64 (sLH (wd 1 a) (wd 0 a) (64 - r)), .int .u64 (sLH (wd 2 a) (wd 1 a) (64 - r)), .int .u64 (sLH (wd 3 a) (wd 2 a) (64 - r)), .int .u64 (sH (wd 3 a) (64 - r))]) (w : World) :
    Calls Tryd.prog 63 #[W4 a, .int .i64 k] w fun e w' => e = .returned (.tuple #[W4 b, .bool (!decide (shlN b k.toNat = a))]) ∧ Below w.heap.size w w' := by
  have c := fun W => Shl_any b hu k h0 (by omega) W
  rw [e] at c ⊢
  have C := Lib.hid c
  clear c e hu
  go_enter Tryd.func63, Tryd.ntmps63
  go_wp2
  refine wp_loop_rounds 5 ?_
  rw [rounds_succ]
  go_wp2
  go_region
  go_wp2
  rw [rounds_succ]
  go_wp2
  go_region
  go_wp2
  rw [rounds_succ]
  go_wp2
  go_region
  go_wp2
  rw [rounds_succ]
  go_wp2
  rw [rounds_succ]
  go_wp2
  go_region_held3 (fun w' => w'.cell? ⟨w.heap.size, 0, none⟩ = some (.int .u64 (wd 0 a)) ∧ w'.cell? ⟨w.heap.size, 1, none⟩ = some (.int .u64 (wd 1 a)) ∧ w'.cell? ⟨w.heap.size, 2, none⟩ = some (.int .u64 (wd 2 a)) ∧ w'.cell? ⟨w.heap.size, 3, none⟩ = some (.int .u64 (wd 3 a)) ∧ w'.cell? ⟨w.heap.size + 1 + 1, 0, none⟩ = some (.int .u64 (sLH (wd 1 a) (wd 0 a) (64 - r))) ∧ w'.cell? ⟨w.heap.size + 1 + 1, 1, none⟩ = some (.int .u64 (sLH (wd 2 a) (wd 1 a) (64 - r))) ∧ w'.cell? ⟨w.heap.size + 1 + 1, 2, none⟩ = some (.int .u64 (sLH (wd 3 a) (wd 2 a) (64 - r))) ∧ w'.cell? ⟨w.heap.size + 1 + 1, 3, none⟩ = some (.int .u64 (sH (wd 3 a) (64 - r))))
    (first
      | (refine ⟨?_, ?_, ?_, ?_, ?_, ?_, ?_, ?_⟩ <;> (go_simp; done))
      | go_keep
      | (refine ⟨?_, ?_, ?_, ?_, ?_, ?_, ?_, ?_⟩ <;> (rw [hb.cell (by first | omega | (simp; done) | (simp; omega))]; go_simp; done)))
    (first | (go_at_call 48; refine (C.out _).mono ?_; rintro e w1 ⟨rfl, hb⟩; obtain ⟨hc, hf⟩ := bcell hb))
  go_wp2
  refine bodyPost_ret (v := .tuple #[.agg #[_, _, _, _], .bool _]) (by simp [results, Tryd.results63, go_sem, hc]) rfl ⟨rfl, ?_⟩
  repeat' (first | with_reducible exact Below.refl _ _ | with_reducible assumption | with_reducible refine Below.drew ?_ | with_reducible refine bdrewN ?_ _ | with_reducible refine Below.alloc ?_ ?_ _ | with_reducible refine Below.setCell ?_ ?_ _ | with_reducible refine Below.trans ?_ (Below.mono (by assumption) ?_) | omega | (simp; done) | (simp; omega))
set_option maxRecDepth 100000 in
set_option maxHeartbeats 4000000 in
theorem Shr_0z (a : Nat) (ha : U256 a) (k : Int) (h0 : 0 ≤ k) (hk : k < 256) (hq : k / 64 = 0) (hr : k % 64 = 0) (b : Nat) (hu : U256 b) (e : W4 b = .agg #[.int .u64 (wd 0 a), .int .u64 (wd 1 a), .int .u64 (wd 2 a), .int .u64 (wd 3 a)]) (w : World) :
    Calls Tryd.prog 63 #[W4 a, .int .i64 k] w fun e w' => e = .returned (.tuple #[W4 b, .bool (!decide (shlN b k.toNat = a))]) ∧ Below w.heap.size w w' := by
  have c := fun W => Shl_any b hu k h0 (by omega) W
  rw [e] at c ⊢
  have C := Lib.hid c
  clear c e hu
  go_enter Tryd.func63, Tryd.ntmps63
  go_wp2
  refine wp_loop_rounds 5 ?_
  rw [rounds_succ]
  go_wp2
  rw [rounds_succ]
  go_wp2
  rw [rounds_succ]
  go_wp2
  rw [rounds_succ]
  go_wp2
  rw [rounds_succ]
  go_wp2
  go_region_held3 (fun w' => w'.cell? ⟨w.heap.size, 0, none⟩ = some (.int .u64 (wd 0 a)) ∧ w'.cell? ⟨w.heap.size, 1, none⟩ = some (.int .u64 (wd 1 a)) ∧ w'.cell? ⟨w.heap.size, 2, none⟩ = some (.int .u64 (wd 2 a)) ∧ w'.cell? ⟨w.heap.size, 3, none⟩ = some (.int .u64 (wd 3 a)) ∧ w'.cell? ⟨w.heap.size + 1 + 1, 0, none⟩ = some (.int .u64 (wd 0 a)) ∧ w'.cell? ⟨w.heap.size + 1 + 1, 1, none⟩ = some (.int .u64 (wd 1 a)) ∧ w'.cell? ⟨w.heap.size + 1 + 1, 2, none⟩ = some (.int .u64 (wd 2 a)) ∧ w'.cell? ⟨w.heap.size + 1 + 1, 3, none⟩ = some (.int .u64 (wd 3 a)))
    (first
      | (refine ⟨?_, ?_, ?_, ?_, ?_, ?_, ?_, ?_⟩ <;> (go_simp; done))
      | go_keep
      | (refine ⟨?_, ?_, ?_, ?_, ?_, ?_, ?_, ?_⟩ <;> (rw [hb.cell (by first | omega | (simp; done) | (simp; omega))]; go_simp; done)))
    (first | (go_at_call 48; refine (C.out _).mono ?_; rintro e w1 ⟨rfl, hb⟩; obtain ⟨hc, hf⟩ := bcell hb))
  go_wp2
  refine bodyPost_ret (v := .tuple #[.agg #[_, _, _, _], .bool _]) (by simp [results, Tryd.results63, go_sem, hc]) rfl ⟨rfl, ?_⟩
  repeat' (first | with_reducible exact Below.refl _ _ | with_reducible assumption | with_reducible refine Below.drew ?_ | with_reducible refine bdrewN ?_ _ | with_reducible refine Below.alloc ?_ ?_ _ | with_reducible refine Below.setCell ?_ ?_ _ | with_reducible refine Below.trans ?_ (Below.mono (by assumption) ?_) | omega | (simp; done) | (simp; omega))
set_option maxRecDepth 100000 in
set_option maxHeartbeats 4000000 in
theorem Shr_1p (a : Nat) (ha : U256 a) (k : Int) (h0 : 0 ≤ k) (hk : k < 256) (hq : k / 64 = 1) (r : Nat) (hr : k % 64 = r) (hr1 : 0 < r) (hr2 : r < 64) (b : Nat) (hu : U256 b) (e : W4 b = .agg #[.int .u64 (sLH (wd 2 a) (wd 1 a) (64 - r)), .int .u64 (sLH (wd 3 a) (wd 2 a) (64 - r)), .int .u64 (sH (wd 3 a) (64 - r)), .int .u64 0]) (w : World) :
    Calls Tryd.prog 63 #[W4 a, .int .i64 k] w fun e w' => e = .returned (.tuple #[W4 b, .bool (!decide (shlN b k.toNat = a))]) ∧ Below w.heap.size w w' := by
  have c := fun W => Shl_any b hu k h0 (by omega) W
  rw [e] at c ⊢
  have C := Lib.hid c
  clear c e hu
  go_enter Tryd.func63, Tryd.ntmps63
  go_wp2
  refine wp_loop_rounds 5 ?_
  rw [rounds_succ]
  go_wp2
  go_region
  go_wp2
  rw [rounds_succ]
  go_wp2
  go_region
  go_wp2
  rw [rounds_succ]
  go_wp2
  rw [rounds_succ]
  go_wp2
  rw [rounds_succ]
  go_wp2
  go_region_held3 (fun w' => w'.cell? ⟨w.heap.size, 0, none⟩ = some (.int .u64 (wd 0 a)) ∧ w'.cell? ⟨w.heap.size, 1, none⟩ = some (.int .u64 (wd 1 a)) ∧ w'.cell? ⟨w.heap.size, 2, none⟩ = some (.int .u64 (wd 2 a)) ∧ w'.cell? ⟨w.heap.size, 3, none⟩ = some (.int .u64 (wd 3 a)) ∧ w'.cell? ⟨w.heap.size + 1 + 1, 0, none⟩ = some (.int .u64 (sLH (wd 2 a) (wd 1 a) (64 - r))) ∧ w'.cell? ⟨w.heap.size + 1 + 1, 1, none⟩ = some (.int .u64 (sLH (wd 3 a) (wd 2 a) (64 - r))) ∧ w'.cell? ⟨w.heap.size + 1 + 1, 2, none⟩ = some (.int .u64 (sH (wd 3 a) (64 - r))) ∧ w'.cell? ⟨w.heap.size + 1 + 1, 3, none⟩ = some (.int .u64 0))
    (first
      | (refine ⟨?_, ?_, ?_, ?_, ?_, ?_, ?_, ?_⟩ <;> (go_simp; done))
      | go_keep
      | (refine ⟨?_, ?_, ?_, ?_, ?_, ?_, ?_, ?_⟩ <;> (rw [hb.cell (by first | omega | (simp; done) | (simp; omega))]; go_simp; done)))
    (first | (go_at_call 48; refine (C.out _).mono ?_; rintro e w1 ⟨rfl, hb⟩; obtain ⟨hc, hf⟩ := bcell hb))
  go_wp2
  refine bodyPost_ret (v := .tuple #[.agg #[_, _, _, _], .bool _]) (by simp [results, Tryd.results63, go_sem, hc]) rfl ⟨rfl, ?_⟩
  repeat' (first | with_reducible exact Below.refl _ _ | with_reducible assumption | with_reducible refine Below.drew ?_ | with_reducible refine bdrewN ?_ _ | with_reducible refine Below.alloc ?_ ?_ _ | with_reducible refine Below.setCell ?_ ?_ _ | with_reducible refine Below.trans ?_ (Below.mono (by assumption) ?_) | omega | (simp; done) | (simp; omega))
set_option maxRecDepth 100000 in
set_option maxHeartbeats 4000000 in
theorem Shr_1z (a : Nat) (ha : U256 a) (k : Int) (h0 : 0 ≤ k) (hk : k < 256) (hq : k / 64 = 1) (hr : k % 64 = 0) (b : Nat) (hu : U256 b) (e : W4 b = .agg #[.int .u64 (wd 1 a), .int .u64 (wd 2 a), .int .u64 (wd 3 a), .int .u64 0]) (w : World) :
    Calls Tryd.prog 63 #[W4 a, .int .i64 k] w fun e w' => e = .returned (.tuple #[W4 b, .bool (!decide (shlN b k.toNat = a))]) ∧ Below w.heap.size w w' := by
  have c := fun W => Shl_any b hu k h0 (by omega) W
  rw [e] at c ⊢
  have C := Lib.hid c
  clear c e hu
  go_enter Tryd.func63, Tryd.ntmps63
  go_wp2
  refine wp_loop_rounds 5 ?_
  rw [rounds_succ]
  go_wp2
  rw [rounds_succ]
  go_wp2
  rw [rounds_succ]
  go_wp2
  rw [rounds_succ]
  go_wp2
  rw [rounds_succ]
  go_wp2
  go_region_held3 (fun w' => w'.cell? ⟨w.heap.size, 0, none⟩ = some (.int .u64 (wd 0 a)) ∧ w'.cell? ⟨w.heap.size, 1, none⟩ = some (.int .u64 (wd 1 a)) ∧ w'.cell? ⟨w.heap.size, 2, none⟩ = some (.int .u64 (wd 2 a)) ∧ w'.cell? ⟨w.heap.size, 3, none⟩ = some (.int .u64 (wd 3 a)) ∧ w'.cell? ⟨w.heap.size + 1 + 1, 0, none⟩ = some (.int .u64 (wd 1 a)) ∧ w'.cell? ⟨w.heap.size + 1 + 1, 1, none⟩ = some (.int .u64 (wd 2 a)) ∧ w'.cell? ⟨w.heap.size + 1 + 1, 2, none⟩ = some (.int .u64 (wd 3 a)) ∧ w'.cell? ⟨w.heap.size + 1 + 1, 3, none⟩ = some (.int .u64 0))
    (first
      | (refine ⟨?_, ?_, ?_, ?_, ?_, ?_, ?_, ?_⟩ <;> (go_simp; done))
      | go_keep
      | (refine ⟨?_, ?_, ?_, ?_, ?_, ?_, ?_, ?_⟩ <;> (rw [hb.cell (by first | omega | (simp; done) | (simp; omega))]; go_simp; done)))
    (first | (go_at_call 48; refine (C.out _).mono ?_; rintro e w1 ⟨rfl, hb⟩; obtain ⟨hc, hf⟩ := bcell hb))
  go_wp2
  refine bodyPost_ret (v := .tuple #[.agg #[_, _, _, _], .bool _]) (by simp [results, Tryd.results63, go_sem, hc]) rfl ⟨rfl, ?_⟩
  repeat' (first | with_reducible exact Below.refl _ _ | with_reducible assumption | with_reducible refine Below.drew ?_ | with_reducible refine bdrewN ?_ _ | with_reducible refine Below.alloc ?_ ?_ _ | with_reducible refine Below.setCell ?_ ?_ _ | with_reducible refine Below.trans ?_ (Below.mono (by assumption) ?_) | omega | (simp; done) | (simp; omega))
set_option maxRecDepth 100000 in
set_option maxHeartbeats 4000000 in
theorem Shr_2p (a : Nat) (ha : U256 a) (k : Int) (h0 : 0 ≤ k) (hk : k < 256) (hq : k / 64 = 2) (r : Nat) (hr : k % 64 = r) (hr1 : 0 < r) (hr2 : r < 64) (b : Nat) (hu : U256 b) (e : W4 b = .agg #[.int .u64 (sLH (wd 3 a) (wd 2 a) (64 - r)), .int .u64 (sH (wd 3 a) (64 - r)), .int .u64 0, .int .u64 0]) (w : World) :
    Calls Tryd.prog 63 #[W4 a, .int .i64 k] w fun e w' => e = .returned (.tuple #[W4 b, .bool (!decide (shlN b k.toNat = a))]) ∧ Below w.heap.size w w' := by
  have c := fun W => Shl_any b hu k h0 (by omega) W
  rw [e] at c ⊢
  have C := Lib.hid c
  clear c e hu
  go_enter Tryd.func63, Tryd.ntmps63
  go_wp2
  refine wp_loop_rounds 5 ?_
  rw [rounds_succ]
  go_wp2
  go_region
  go_wp2
  rw [rounds_succ]
  go_wp2
  rw [rounds_succ]
  go_wp2
  rw [rounds_succ]
  go_wp2
  rw [rounds_succ]
  go_wp2
  go_region_held3 (fun w' => w'.cell? ⟨w.heap.size, 0, none⟩ = some (.int .u64 (wd 0 a)) ∧ w'.cell? ⟨w.heap.size, 1, none⟩ = some (.int .u64 (wd 1 a)) ∧ w'.cell? ⟨w.heap.size, 2, none⟩ = some (.int .u64 (wd 2 a)) ∧ w'.cell? ⟨w.heap.size, 3, none⟩ = some (.int .u64 (wd 3 a)) ∧ w'.cell? ⟨w.heap.size + 1 + 1, 0, none⟩ = some (.int .u64 (sLH (wd 3 a) (wd 2 a) (64 - r))) ∧ w'.cell? ⟨w.heap.size + 1 + 1, 1, none⟩ = some (.int .u64 (sH (wd 3 a) (64 - r))) ∧ w'.cell? ⟨w.heap.size + 1 + 1, 2, none⟩ = some (.int .u64 0) ∧ w'.cell? ⟨w.heap.size + 1 + 1, 3, none⟩ = some (.int .u64 0))
    (first
      | (refine ⟨?_, ?_, ?_, ?_, ?_, ?_, ?_, ?_⟩ <;> (go_simp; done))
      | go_keep
      | (refine ⟨?_, ?_, ?_, ?_, ?_, ?_, ?_, ?_⟩ <;> (rw [hb.cell (by first | omega | (simp; done) | (simp; omega))]; go_simp; done)))
    (first | (go_at_call 48; refine (C.out _).mono ?_; rintro e w1 ⟨rfl, hb⟩; obtain ⟨hc, hf⟩ := bcell hb))
  go_wp2
  refine bodyPost_ret (v := .tuple #[.agg #[_, _, _, _], .bool _]) (by simp [results, Tryd.results63, go_sem, hc]) rfl ⟨rfl, ?_⟩
  repeat' (first | with_reducible exact Below.refl _ _ | with_reducible assumption | with_reducible refine Below.drew ?_ | with_reducible refine bdrewN ?_ _ | with_reducible refine Below.alloc ?_ ?_ _ | with_reducible refine Below.setCell ?_ ?_ _ | with_reducible refine Below.trans ?_ (Below.mono (by assumption) ?_) | omega | (simp; done) | (simp; omega))
set_option maxRecDepth 100000 in
set_option maxHeartbeats 4000000 in
theorem Shr_2z (a : Nat) (ha : U256 a) (k : Int) (h0 : 0 ≤ k) (hk : k < 256) (hq : k / 64 = 2) (hr : k % 64 = 0) (b : Nat) (hu : U256 b) (e : W4 b = .agg #[.int .u64 (wd 2 a), .int .u64 (wd 3 a), .int .u64 0, .int .u64 0]) (w : World) :
    Calls Tryd.prog 63 #[W4 a, .int .i64 k] w fun e w' => e = .returned (.tuple #[W4 b, .bool (!decide (shlN b k.toNat = a))]) ∧ Below w.heap.size w w' := by
  have c := fun W => Shl_any b hu k h0 (by omega) W
  rw [e] at c ⊢
  have C := Lib.hid c
  clear c e hu
  go_enter Tryd.func63, Tryd.ntmps63
  go_wp2
  refine wp_loop_rounds 5 ?_
  rw [rounds_succ]
  go_wp2
  rw [rounds_succ]
  go_wp2
  rw [rounds_succ]
  go_wp2
  rw [rounds_succ]
  go_wp2
  rw [rounds_succ]
  go_wp2
  go_region_held3 (fun w' => w'.cell? ⟨w.heap.size, 0, none⟩ = some (.int .u64 (wd 0 a)) ∧ w'.cell? ⟨w.heap.size, 1, none⟩ = some (.int .u64 (wd 1 a)) ∧ w'.cell? ⟨w.heap.size, 2, none⟩ = some (.int .u64 (wd 2 a)) ∧ w'.cell? ⟨w.heap.size, 3, none⟩ = some (.int .u64 (wd 3 a)) ∧ w'.cell? ⟨w.heap.size + 1 + 1, 0, none⟩ = some (.int .u64 (wd 2 a)) ∧ w'.cell? ⟨w.heap.size + 1 + 1, 1, none⟩ = some (.int .u64 (wd 3 a)) ∧ w'.cell? ⟨w.heap.size + 1 + 1, 2, none⟩ = some (.int .u64 0) ∧ w'.cell? ⟨w.heap.size + 1 + 1, 3, none⟩ = some (.int .u64 0))
    (first
      | (refine ⟨?_, ?_, ?_, ?_, ?_, ?_, ?_, ?_⟩ <;> (go_simp; done))
      | go_keep
      | (refine ⟨?_, ?_, ?_, ?_, ?_, ?_, ?_, ?_⟩ <;> (rw [hb.cell (by first | omega | (simp; done) | (simp; omega))]; go_simp; done)))
    (first | (go_at_call 48; refine (C.out _).mono ?_; rintro e w1 ⟨rfl, hb⟩; obtain ⟨hc, hf⟩ := bcell hb))
  go_wp2
  refine bodyPost_ret (v := .tuple #[.agg #[_, _, _, _], .bool _]) (by simp [results, Tryd.results63, go_sem, hc]) rfl ⟨rfl, ?_⟩
  repeat' (first | with_reducible exact Below.refl _ _ | with_reducible assumption | with_reducible refine Below.drew ?_ | with_reducible refine bdrewN ?_ _ | with_reducible refine Below.alloc ?_ ?_ _ | with_reducible refine Below.setCell ?_ ?_ _ | with_reducible refine Below.trans ?_ (Below.mono (by assumption) ?_) | omega | (simp; done) | (simp; omega))
set_option maxRecDepth 100000 in
set_option maxHeartbeats 4000000 in
theorem Shr_3p (a : Nat) (ha : U256 a) (k : Int) (h0 : 0 ≤ k) (hk : k < 256) (hq : k / 64 = 3) (r : Nat) (hr : k % 64 = r) (hr1 : 0 < r) (hr2 : r < 64) (b : Nat) (hu : U256 b) (e : W4 b = .agg #[.int .u64 (sH (wd 3 a) (64 - r)), .int .u64 0, .int .u64 0, .int .u64 0]) (w : World) :
    Calls Tryd.prog 63 #[W4 a, .int .i64 k] w fun e w' => e = .returned (.tuple #[W4 b, .bool (!decide (shlN b k.toNat = a))]) ∧ Below w.heap.size w w' := by
  have c := fun W => Shl_any b hu k h0 (by omega) W
  rw [e] at c ⊢
  have C := Lib.hid c
  clear c e hu
  go_enter Tryd.func63, Tryd.ntmps63
  go_wp2
  refine wp_loop_rounds 5 ?_
  rw [rounds_succ]
  go_wp2
  rw [rounds_succ]
  go_wp2
  rw [rounds_succ]
  go_wp2
  rw [rounds_succ]
  go_wp2
  rw [rounds_succ]
  go_wp2
  go_region_held3 (fun w' => w'.cell? ⟨w.heap.size, 0, none⟩ = some (.int .u64 (wd 0 a)) ∧ w'.cell? ⟨w.heap.size, 1, none⟩ = some (.int .u64 (wd 1 a)) ∧ w'.cell? ⟨w.heap.size, 2, none⟩ = some (.int .u64 (wd 2 a)) ∧ w'.cell? ⟨w.heap.size, 3, none⟩ = some (.int .u64 (wd 3 a)) ∧ w'.cell? ⟨w.heap.size + 1 + 1, 0, none⟩ = some (.int .u64 (sH (wd 3 a) (64 - r))) ∧ w'.cell? ⟨w.heap.size + 1 + 1, 1, none⟩ = some (.int .u64 0) ∧ w'.cell? ⟨w.heap.size + 1 + 1, 2, none⟩ = some (.int .u64 0) ∧ w'.cell? ⟨w.heap.size + 1 + 1, 3, none⟩ = some (.int .u64 0))
    (first
      | (refine ⟨?_, ?_, ?_, ?_, ?_, ?_, ?_, ?_⟩ <;> (go_simp; done))
      | go_keep
      | (refine ⟨?_, ?_, ?_, ?_, ?_, ?_, ?_, ?_⟩ <;> (rw [hb.cell (by first | omega | (simp; done) | (simp; omega))]; go_simp; done)))
    (first | (go_at_call 48; refine (C.out _).mono ?_; rintro e w1 ⟨rfl, hb⟩; obtain ⟨hc, hf⟩ := bcell hb))
  go_wp2
  refine bodyPost_ret (v := .tuple #[.agg #[_, _, _, _], .bool _]) (by simp [results, Tryd.results63, go_sem, hc]) rfl ⟨rfl, ?_⟩
  repeat' (first | with_reducible exact Below.refl _ _ | with_reducible assumption | with_reducible refine Below.drew ?_ | with_reducible refine bdrewN ?_ _ | with_reducible refine Below.alloc ?_ ?_ _ | with_reducible refine Below.setCell ?_ ?_ _ | with_reducible refine Below.trans ?_ (Below.mono (by assumption) ?_) | omega | (simp; done) | (simp; omega))
set_option maxRecDepth 100000 in
set_option maxHeartbeats 4000000 in
theorem Shr_3z (a : Nat) (ha : U256 a) (k : Int) (h0 : 0 ≤ k) (hk : k < 256) (hq : k / 64 = 3) (hr : k % 64 = 0) (b : Nat) (hu : U256 b) (e : W4 b = .agg #[.int .u64 (wd 3 a), .int .u64 0, .int .u64 0, .int .u64 0]) (w : World) :
    Calls Tryd.prog 63 #[W4 a, .int .i64 k] w fun e w' => e = .returned (.tuple #[W4 b, .bool (!decide (shlN b k.toNat = a))]) ∧ Below w.heap.size w w' := by
  have c := fun W => Shl_any b hu k h0 (by omega) W
  rw [e] at c ⊢
  have C := Lib.hid c
  clear c e hu
  go_enter Tryd.func63, Tryd.ntmps63
  go_wp2
  refine wp_loop_rounds 5 ?_
  rw [rounds_succ]
  go_wp2
  rw [rounds_succ]
  go_wp2
  rw [rounds_succ]
  go_wp2
  rw [rounds_succ]
  go_wp2
  rw [rounds_succ]
  go_wp2
  go_region_held3 (fun w' => w'.cell? ⟨w.heap.size, 0, none⟩ = some (.int .u64 (wd 0 a)) ∧ w'.cell? ⟨w.heap.size, 1, none⟩ = some (.int .u64 (wd 1 a)) ∧ w'.cell? ⟨w.heap.size, 2, none⟩ = some (.int .u64 (wd 2 a)) ∧ w'.cell? ⟨w.heap.size, 3, none⟩ = some (.int .u64 (wd 3 a)) ∧ w'.cell? ⟨w.heap.size + 1 + 1, 0, none⟩ = some (.int .u64 (wd 3 a)) ∧ w'.cell? ⟨w.heap.size + 1 + 1, 1, none⟩ = some (.int .u64 0) ∧ w'.cell? ⟨w.heap.size + 1 + 1, 2, none⟩ = some (.int .u64 0) ∧ w'.cell? ⟨w.heap.size + 1 + 1, 3, none⟩ = some (.int .u64 0))
    (first
      | (refine ⟨?_, ?_, ?_, ?_, ?_, ?_, ?_, ?_⟩ <;> (go_simp; done))
      | go_keep
      | (refine ⟨?_, ?_, ?_, ?_, ?_, ?_, ?_, ?_⟩ <;> (rw [hb.cell (by first | omega | (simp; done) | (simp; omega))]; go_simp; done)))
    (first | (go_at_call 48; refine (C.out _).mono ?_; rintro e w1 ⟨rfl, hb⟩; obtain ⟨hc, hf⟩ := bcell hb))
  go_wp2
  refine bodyPost_ret (v := .tuple #[.agg #[_, _, _, _], .bool _]) (by simp [results, Tryd.results63, go_sem, hc]) rfl ⟨rfl, ?_⟩
  repeat' (first | with_reducible exact Below.refl _ _ | with_reducible assumption | with_reducible refine Below.drew ?_ | with_reducible refine bdrewN ?_ _ | with_reducible refine Below.alloc ?_ ?_ _ | with_reducible refine Below.setCell ?_ ?_ _ | with_reducible refine Below.trans ?_ (Below.mono (by assumption) ?_) | omega | (simp; done) | (simp; omega))
theorem left_iff {a k : Nat} (ha : U256 a) : (!decide (shlN (a / 2 ^ k) k = a)) = decide (a % 2 ^ k ≠ 0) := by
  rw [shlN_def, back_mod ha]
  have := Nat.div_add_mod a (2 ^ k)
  rw [Nat.mul_comm] at this
  by_cases h : a % 2 ^ k = 0
  · simp only [h, ne_eq, not_true_eq_false, decide_false, Bool.not_eq_false', decide_eq_true_eq]; omega
  · simp only [h, ne_eq, not_false_eq_true, decide_true, Bool.not_eq_true', decide_eq_false_iff_not]; omega
theorem Shr_small (a : Nat) (ha : U256 a) (k : Int) (h0 : 0 ≤ k) (hk : k < 256) (w : World) :
    Calls Tryd.prog 63 #[W4 a, .int .i64 k] w fun e w' => e = .returned (.tuple #[W4 (a / 2 ^ k.toNat), .bool (decide (a % 2 ^ k.toNat ≠ 0))]) ∧ Below w.heap.size w w' := by
  have hu : U256 (a / 2 ^ k.toNat) := Nat.lt_of_le_of_lt (Nat.div_le_self _ _) ha
  rw [← left_iff ha]
  have hr : k % 64 = ((k % 64).toNat : Int) := by omega
  have hq : k / 64 = 0 ∨ k / 64 = 1 ∨ k / 64 = 2 ∨ k / 64 = 3 := by omega
  by_cases hz : k % 64 = 0
  · rcases hq with hq | hq | hq | hq
    · exact Shr_0z a ha k h0 hk hq hz _ hu (by rw [show k.toNat = 0 + 0 from by omega]; exact shr_0z) w
    · exact Shr_1z a ha k h0 hk hq hz _ hu (by rw [show k.toNat = 64 + 0 from by omega]; exact shr_1z ha) w
    · exact Shr_2z a ha k h0 hk hq hz _ hu (by rw [show k.toNat = 128 + 0 from by omega]; exact shr_2z ha) w
    · exact Shr_3z a ha k h0 hk hq hz _ hu (by rw [show k.toNat = 192 + 0 from by omega]; exact shr_3z ha) w
  · rcases hq with hq | hq | hq | hq
    · exact Shr_0p a ha k h0 hk hq _ hr (by omega) (by omega) _ hu (by rw [show k.toNat = 0 + (k % 64).toNat from by omega]; exact shr_0 ha (by omega) (by omega)) w
    · exact Shr_1p a ha k h0 hk hq _ hr (by omega) (by omega) _ hu (by rw [show k.toNat = 64 + (k % 64).toNat from by omega]; exact shr_1 ha (by omega) (by omega)) w
    · exact Shr_2p a ha k h0 hk hq _ hr (by omega) (by omega) _ hu (by rw [show k.toNat = 128 + (k % 64).toNat from by omega]; exact shr_2 ha (by omega) (by omega)) w
    · exact Shr_3p a ha k h0 hk hq _ hr (by omega) (by omega) _ hu (by rw [show k.toNat = 192 + (k % 64).toNat from by omega]; exact shr_3 ha (by omega) (by omega)) w
end Go.Proofs.YtldmbneckcjonabDoor
namespace Go.Proofs.YtldmbneckcjonabDoor
open Go.RowKit
attribute [local go_sem] eqW0_run
set_option maxRecDepth 100000 in
set_option maxHeartbeats 4000000 in
theorem Shr_big (a : Nat) (ha : U256 a) (k : Int) (hk : 256 ≤ k) (w : World) :
    Calls Tryd.prog 63 #[W4 a, .int .i64 k] w fun e w' => e = .returned (.tuple #[W4 0, .bool (decide (a ≠ 0))]) ∧ Below w.heap.size w w' := by
  rw [zero_words, show decide (a ≠ 0) = !decide (a = 0) from by by_cases h : a = 0 <;> simp [h]]
  go_enter Tryd.func63, Tryd.ntmps63
  go_wp2
  go_region
  go_wp2
  refine bodyPost_ret (v := .tuple #[.agg #[_, _, _, _], .bool _]) (by simp [results, Tryd.results63, go_sem]) rfl ⟨rfl, ?_⟩
  repeat' (first | with_reducible exact Below.refl _ _ | with_reducible assumption | with_reducible refine Below.drew ?_ | with_reducible refine bdrewN ?_ _ | with_reducible refine Below.alloc ?_ ?_ _ | with_reducible refine Below.setCell ?_ ?_ _ | with_reducible refine Below.trans ?_ (Below.mono (by assumption) ?_) | omega | (simp; done) | (simp; omega))
end Go.Proofs.YtldmbneckcjonabDoor
