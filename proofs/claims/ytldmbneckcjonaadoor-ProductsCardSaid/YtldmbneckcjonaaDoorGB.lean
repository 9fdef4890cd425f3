/- Several texts in one: wide.Shl at four words: the number times 2^k, as far as there is room. The argument is below 2^256, k is not below 0 (and below 2^32). · wide.Shr at four words: the number divided by 2^k, and whether something is left. The argument is below 2^256, k is not below 0 (and below 2^32). · wide.Shr by 256 and more: nothing stays. · math/bits.Div64: where the high word is below the divisor: quotient and rest. · wide.Div: four words divided by one that is not 0. · What a block of four cells holds, kept over calls, draws, new blocks and stores. · wide.cubed and Cube: the greatest number below 2^62 whose cube is not above a (a below 2^186). · wide.Cube: the greatest number below 2^62 whose cube is not above a, and whether something is left (a below 2^186). · The square root, two bits a round: plain arithmetic. · wide.Root: the greatest number whose square is not above a, and whether something is left. The argument is below 2^256. -/
import Derived.Handy
import Derived.RegionTactic
import Derived.BigRegion
import Derived.Deep.QuietTactic
import Derived.Deep.RegionHeld3
import Derived.Lib.Hide
import Derived.BigQuiet
import Derived.Deep.DeepCutAuto
import Derived.Deep.CutBlock
import Derived.Deep.RegionWith
import Derived.Test.YtldmbneckcjonaaDoorGA
set_option linter.unusedVariables false
set_option linter.unusedSimpArgs false
namespace Go.Proofs.YtldmbneckcjonaaDoor
open Go.RowKit
attribute [local go_sem] isW_wd isW_zero isC_zero wd_u64 wrap_sL div_sH or_sLH wrap_wd
set_option maxRecDepth 100000 in
set_option maxHeartbeats 400000 in
theorem Shl_0p (a : Nat) (ha : U256 a) (k : Int) (h0 : 0 ≤ k) (hq : k / 64 = 0) (r : Nat) (hr : k % 64 = r) (hr1 : 0 < r) (hr2 : r < 64) (w : World) :
    Calls Tryd.prog 145 #[W4 a, .int .i64 k] w fun e w' => e = .returned (W4 (a * 2 ^ (0 + r) % 2 ^ 256)) ∧ Below w.heap.size w w' := by
  have e := shl_0 ha hr2
  rw [e]; clear e
  go_enter Tryd.func145, Tryd.ntmps145
  go_wp2
  refine wp_loop_rounds 5 ?_
  rw [rounds_succ]
  go_wp2
  rw [rounds_succ]
  go_wp2
  go_region
  go_wp2
  rw [rounds_succ]
  go_wp2
  go_region
  go_wp2
  rw [rounds_succ]
  go_wp2
  go_region
  go_wp2
  rw [rounds_succ]
  go_wp2
  refine bodyPost_ret (v := .agg #[_, _, _, _]) (by simp [results, Tryd.results145, go_sem]) rfl ⟨rfl, ?_⟩
  repeat' (first | with_reducible exact Below.refl _ _ | with_reducible assumption | with_reducible refine Below.drew ?_ | with_reducible refine bdrewN ?_ _ | with_reducible refine Below.alloc ?_ ?_ _ | with_reducible refine Below.setCell ?_ ?_ _ | with_reducible refine Below.trans ?_ (Below.mono (by assumption) ?_) | omega | (simp; done) | (simp; omega))
set_option maxRecDepth 100000 in
set_option maxHeartbeats 400000 in
theorem Shl_0z (a : Nat) (ha : U256 a) (k : Int) (h0 : 0 ≤ k) (hq : k / 64 = 0) (hr : k % 64 = 0) (w : World) :
    Calls Tryd.prog 145 #[W4 a, .int .i64 k] w fun e w' => e = .returned (W4 (a * 2 ^ (0 + 0) % 2 ^ 256)) ∧ Below w.heap.size w w' := by
  have e := shl_0 ha (r := 0) (by decide)
  rw [sL_0 (wd_u64 _ _), sLH_0 (wd_u64 _ _) (wd_u64 _ _), sLH_0 (wd_u64 _ _) (wd_u64 _ _), sLH_0 (wd_u64 _ _) (wd_u64 _ _)] at e
  rw [e]; clear e
  go_enter Tryd.func145, Tryd.ntmps145
  go_wp2
  refine wp_loop_rounds 5 ?_
  rw [rounds_succ]
  go_wp2
  rw [rounds_succ]
  go_wp2
  rw [rounds_succ]
  go_wp2
  rw [rounds_succ]
  go_wp2
  rw [rounds_succ]
  go_wp2
  refine bodyPost_ret (v := .agg #[_, _, _, _]) (by simp [results, Tryd.results145, go_sem]) rfl ⟨rfl, ?_⟩
  repeat' (first | with_reducible exact Below.refl _ _ | with_reducible assumption | with_reducible refine Below.drew ?_ | with_reducible refine bdrewN ?_ _ | with_reducible refine Below.alloc ?_ ?_ _ | with_reducible refine Below.setCell ?_ ?_ _ | with_reducible refine Below.trans ?_ (Below.mono (by assumption) ?_) | omega | (simp; done) | (simp; omega))
set_option maxRecDepth 100000 in
set_option maxHeartbeats 400000 in
theorem Shl_1p (a : Nat) (ha : U256 a) (k : Int) (h0 : 0 ≤ k) (hq : k / 64 = 1) (r : Nat) (hr : k % 64 = r) (hr1 : 0 < r) (hr2 : r < 64) (w : World) :
    Calls Tryd.prog 145 #[W4 a, .int .i64 k] w fun e w' => e = .returned (W4 (a * 2 ^ (64 + r) % 2 ^ 256)) ∧ Below w.heap.size w w' := by
  have e := shl_1 ha hr2
  rw [e]; clear e
  go_enter Tryd.func145, Tryd.ntmps145
  go_wp2
  refine wp_loop_rounds 5 ?_
  rw [rounds_succ]
  go_wp2
  rw [rounds_succ]
  go_wp2
  rw [rounds_succ]
  go_wp2
  go_region
  go_wp2
  rw [rounds_succ]
  go_wp2
  go_region
  go_wp2
  rw [rounds_succ]
  go_wp2
  refine bodyPost_ret (v := .agg #[_, _, _, _]) (by simp [results, Tryd.results145, go_sem]) rfl ⟨rfl, ?_⟩
  repeat' (first | with_reducible exact Below.refl _ _ | with_reducible assumption | with_reducible refine Below.drew ?_ | with_reducible refine bdrewN ?_ _ | with_reducible refine Below.alloc ?_ ?_ _ | with_reducible refine Below.setCell ?_ ?_ _ | with_reducible refine Below.trans ?_ (Below.mono (by assumption) ?_) | omega | (simp; done) | (simp; omega))
set_option maxRecDepth 100000 in
set_option maxHeartbeats 400000 in
theorem Shl_1z (a : Nat) (ha : U256 a) (k : Int) (h0 : 0 ≤ k) (hq : k / 64 = 1) (hr : k % 64 = 0) (w : World) :
    Calls Tryd.prog 145 #[W4 a, .int .i64 k] w fun e w' => e = .returned (W4 (a * 2 ^ (64 + 0) % 2 ^ 256)) ∧ Below w.heap.size w w' := by
  have e := shl_1 ha (r := 0) (by decide)
  rw [sL_0 (wd_u64 _ _), sLH_0 (wd_u64 _ _) (wd_u64 _ _), sLH_0 (wd_u64 _ _) (wd_u64 _ _)] at e
  rw [e]; clear e
  go_enter Tryd.func145, Tryd.ntmps145
  go_wp2
  refine wp_loop_rounds 5 ?_
  rw [rounds_succ]
  go_wp2
  rw [rounds_succ]
  go_wp2
  rw [rounds_succ]
  go_wp2
  rw [rounds_succ]
  go_wp2
  rw [rounds_succ]
  go_wp2
  refine bodyPost_ret (v := .agg #[_, _, _, _]) (by simp [results, Tryd.results145, go_sem]) rfl ⟨rfl, ?_⟩
  repeat' (first | with_reducible exact Below.refl _ _ | with_reducible assumption | with_reducible refine Below.drew ?_ | with_reducible refine bdrewN ?_ _ | with_reducible refine Below.alloc ?_ ?_ _ | with_reducible refine Below.setCell ?_ ?_ _ | with_reducible refine Below.trans ?_ (Below.mono (by assumption) ?_) | omega | (simp; done) | (simp; omega))
set_option maxRecDepth 100000 in
set_option maxHeartbeats 400000 in
theorem Shl_2p (a : Nat) (ha : U256 a) (k : Int) (h0 : 0 ≤ k) (hq : k / 64 = 2) (r : Nat) (hr : k % 64 = r) (hr1 : 0 < r) (hr2 : r < 64) (w : World) :
    Calls Tryd.prog 145 #[W4 a, .int .i64 k] w fun e w' => e = .returned (W4 (a * 2 ^ (128 + r) % 2 ^ 256)) ∧ Below w.heap.size w w' := by
  have e := shl_2 ha hr2
  rw [e]; clear e
  go_enter Tryd.func145, Tryd.ntmps145
  go_wp2
  refine wp_loop_rounds 5 ?_
  rw [rounds_succ]
  go_wp2
  rw [rounds_succ]
  go_wp2
  rw [rounds_succ]
  go_wp2
  rw [rounds_succ]
  go_wp2
  go_region
  go_wp2
  rw [rounds_succ]
  go_wp2
  refine bodyPost_ret (v := .agg #[_, _, _, _]) (by simp [results, Tryd.results145, go_sem]) rfl ⟨rfl, ?_⟩
  repeat' (first | with_reducible exact Below.refl _ _ | with_reducible assumption | with_reducible refine Below.drew ?_ | with_reducible refine bdrewN ?_ _ | with_reducible refine Below.alloc ?_ ?_ _ | with_reducible refine Below.setCell ?_ ?_ _ | with_reducible refine Below.trans ?_ (Below.mono (by assumption) ?_) | omega | (simp; done) | (simp; omega))
set_option maxRecDepth 100000 in
set_option maxHeartbeats 400000 in
theorem Shl_2z (a : Nat) (ha : U256 a) (k : Int) (h0 : 0 ≤ k) (hq : k / 64 = 2) (hr : k % 64 = 0) (w : World) :
    Calls Tryd.prog 145 #[W4 a, .int .i64 k] w fun e w' => e = .returned (W4 (a * 2 ^ (128 + 0) % 2 ^ 256)) ∧ Below w.heap.size w w' := by
  have e := shl_2 ha (r := 0) (by decide)
  rw [sL_0 (wd_u64 _ _), sLH_0 (wd_u64 _ _) (wd_u64 _ _)] at e
  rw [e]; clear e
  go_enter Tryd.func145, Tryd.ntmps145
  go_wp2
  refine wp_loop_rounds 5 ?_
  rw [rounds_succ]
  go_wp2
  rw [rounds_succ]
  go_wp2
  rw [rounds_succ]
  go_wp2
  rw [rounds_succ]
  go_wp2
  rw [rounds_succ]
  go_wp2
  refine bodyPost_ret (v := .agg #[_, _, _, _]) (by simp [results, Tryd.results145, go_sem]) rfl ⟨rfl, ?_⟩
  repeat' (first | with_reducible exact Below.refl _ _ | with_reducible assumption | with_reducible refine Below.drew ?_ | with_reducible refine bdrewN ?_ _ | with_reducible refine Below.alloc ?_ ?_ _ | with_reducible refine Below.setCell ?_ ?_ _ | with_reducible refine Below.trans ?_ (Below.mono (by assumption) ?_) | omega | (simp; done) | (simp; omega))
set_option maxRecDepth 100000 in
set_option maxHeartbeats 400000 in
theorem Shl_3p (a : Nat) (ha : U256 a) (k : Int) (h0 : 0 ≤ k) (hq : k / 64 = 3) (r : Nat) (hr : k % 64 = r) (hr1 : 0 < r) (hr2 : r < 64) (w : World) :
    Calls Tryd.prog 145 #[W4 a, .int .i64 k] w fun e w' => e = .returned (W4 (a * 2 ^ (192 + r) % 2 ^ 256)) ∧ Below w.heap.size w w' := by
  have e := shl_3 ha hr2
  rw [e]; clear e
  go_enter Tryd.func145, Tryd.ntmps145
  go_wp2
  refine wp_loop_rounds 5 ?_
  rw [rounds_succ]
  go_wp2
  rw [rounds_succ]
  go_wp2
  rw [rounds_succ]
  go_wp2
  rw [rounds_succ]
  go_wp2
  rw [rounds_succ]
  go_wp2
  refine bodyPost_ret (v := .agg #[_, _, _, _]) (by simp [results, Tryd.results145, go_sem]) rfl ⟨rfl, ?_⟩
  repeat' (first | with_reducible exact Below.refl _ _ | with_reducible assumption | with_reducible refine Below.drew ?_ | with_reducible refine bdrewN ?_ _ | with_reducible refine Below.alloc ?_ ?_ _ | with_reducible refine Below.setCell ?_ ?_ _ | with_reducible refine Below.trans ?_ (Below.mono (by assumption) ?_) | omega | (simp; done) | (simp; omega))
set_option maxRecDepth 100000 in
set_option maxHeartbeats 400000 in
theorem Shl_3z (a : Nat) (ha : U256 a) (k : Int) (h0 : 0 ≤ k) (hq : k / 64 = 3) (hr : k % 64 = 0) (w : World) :
    Calls Tryd.prog 145 #[W4 a, .int .i64 k] w fun e w' => e = .returned (W4 (a * 2 ^ (192 + 0) % 2 ^ 256)) ∧ Below w.heap.size w w' := by
  have e := shl_3 ha (r := 0) (by decide)
  rw [sL_0 (wd_u64 _ _)] at e
  rw [e]; clear e
  go_enter Tryd.func145, Tryd.ntmps145
  go_wp2
  refine wp_loop_rounds 5 ?_
  rw [rounds_succ]
  go_wp2
  rw [rounds_succ]
  go_wp2
  rw [rounds_succ]
  go_wp2
  rw [rounds_succ]
  go_wp2
  rw [rounds_succ]
  go_wp2
  refine bodyPost_ret (v := .agg #[_, _, _, _]) (by simp [results, Tryd.results145, go_sem]) rfl ⟨rfl, ?_⟩
  repeat' (first | with_reducible exact Below.refl _ _ | with_reducible assumption | with_reducible refine Below.drew ?_ | with_reducible refine bdrewN ?_ _ | with_reducible refine Below.alloc ?_ ?_ _ | with_reducible refine Below.setCell ?_ ?_ _ | with_reducible refine Below.trans ?_ (Below.mono (by assumption) ?_) | omega | (simp; done) | (simp; omega))
set_option maxRecDepth 100000 in
set_option maxHeartbeats 400000 in
theorem Shl_big (a : Nat) (k : Int) (h : 256 ≤ k) (hk : k < 4294967296) (w : World) :
    Calls Tryd.prog 145 #[W4 a, .int .i64 k] w fun e w' => e = .returned (W4 (a * 2 ^ k.toNat % 2 ^ 256)) ∧ Below w.heap.size w w' := by
  have e := shl_big a (k := k.toNat) (by omega)
  rw [e]; clear e
  go_enter Tryd.func145, Tryd.ntmps145
  go_wp2
  refine wp_loop_rounds 5 ?_
  rw [rounds_succ]
  go_wp2
  rw [rounds_succ]
  go_wp2
  rw [rounds_succ]
  go_wp2
  rw [rounds_succ]
  go_wp2
  rw [rounds_succ]
  go_wp2
  refine bodyPost_ret (v := .agg #[_, _, _, _]) (by simp [results, Tryd.results145, go_sem]) rfl ⟨rfl, ?_⟩
  repeat' (first | with_reducible exact Below.refl _ _ | with_reducible assumption | with_reducible refine Below.drew ?_ | with_reducible refine bdrewN ?_ _ | with_reducible refine Below.alloc ?_ ?_ _ | with_reducible refine Below.setCell ?_ ?_ _ | with_reducible refine Below.trans ?_ (Below.mono (by assumption) ?_) | omega | (simp; done) | (simp; omega))
theorem Shl_any (a : Nat) (ha : U256 a) (k : Int) (h0 : 0 ≤ k) (hk : k < 4294967296) (w : World) :
    Calls Tryd.prog 145 #[W4 a, .int .i64 k] w fun e w' => e = .returned (W4 (shlN a k.toNat)) ∧ Below w.heap.size w w' := by
  rw [shlN_def]
  by_cases hb : 256 ≤ k
  · exact Shl_big a k hb hk w
  have hr : k % 64 = ((k % 64).toNat : Int) := by omega
  have hq : k / 64 = 0 ∨ k / 64 = 1 ∨ k / 64 = 2 ∨ k / 64 = 3 := by omega
  by_cases hz : k % 64 = 0
  · rcases hq with hq | hq | hq | hq
    · rw [show k.toNat = 0 + 0 from by omega]; exact Shl_0z a ha k h0 hq hz w
    · rw [show k.toNat = 64 + 0 from by omega]; exact Shl_1z a ha k h0 hq hz w
    · rw [show k.toNat = 128 + 0 from by omega]; exact Shl_2z a ha k h0 hq hz w
    · rw [show k.toNat = 192 + 0 from by omega]; exact Shl_3z a ha k h0 hq hz w
  · rcases hq with hq | hq | hq | hq
    · rw [show k.toNat = 0 + (k % 64).toNat from by omega]; exact Shl_0p a ha k h0 hq _ hr (by omega) (by omega) w
    · rw [show k.toNat = 64 + (k % 64).toNat from by omega]; exact Shl_1p a ha k h0 hq _ hr (by omega) (by omega) w
    · rw [show k.toNat = 128 + (k % 64).toNat from by omega]; exact Shl_2p a ha k h0 hq _ hr (by omega) (by omega) w
    · rw [show k.toNat = 192 + (k % 64).toNat from by omega]; exact Shl_3p a ha k h0 hq _ hr (by omega) (by omega) w
end Go.Proofs.YtldmbneckcjonaaDoor
namespace Go.Proofs.YtldmbneckcjonaaDoor
open Go.RowKit
attribute [local go_sem] isW_wd isW_zero isC_zero wd_u64 wrap_sL div_sH or_sLH wrap_wd div_down or_down eqW_run shlN_u256
theorem bcell {W w1 : World} (hb : Below W.heap.size W w1) : (∀ b o, b < W.heap.size → w1.cell? ⟨b, o, none⟩ = W.cell? ⟨b, o, none⟩) ∧ (∀ b o, b < W.heap.size → w1.frozen? ⟨b, o, none⟩ = W.frozen? ⟨b, o, none⟩) :=
  ⟨fun b o h => hb.cell (p := ⟨b, o, none⟩) h, fun b o h => hb.frozen (p := ⟨b, o, none⟩) h⟩
set_option maxRecDepth 100000 in
set_option maxHeartbeats 4000000 in
theorem Shr_0p (a : Nat) (ha : U256 a) (k : Int) (h0 : 0 ≤ k) (hk : k < 256) (hq : k / 64 = 0) (r : Nat) (hr : k % 64 = r) (hr1 : 0 < r) (hr2 : r < 64) (b : Nat) (hu : U256 b) (e : W4 b = .agg #[.int .u64 (sLH (wd 1 a) (wd 0 a) (64 - r)), .int .u64 (sLH (wd 2 a) (wd 1 a) (64 - r)), .int .u64 (sLH (wd 3 a) (wd 2 a) (64 - r)), .int .u64 (sH (wd 3 a) (64 - r))]) (w : World) :
    Calls Tryd.prog 160 #[W4 a, .int .i64 k] w fun e w' => e = .returned (.tuple #[W4 b, .bool (!decide (shlN b k.toNat = a))]) ∧ Below w.heap.size w w' := by
  have c := fun W => Shl_any b hu k h0 (by omega) W
  rw [e] at c ⊢
  have C := Lib.hid c
  clear c e hu
  go_enter Tryd.func160, Tryd.ntmps160
  go_wp2
  refine wp_loop_rounds 5 ?_
  rw [rounds_succ]
  go_wp2
  go_region
  go_wp2
  rw [rounds_succ]
  go_wp2
  go_region
  go_wp2
  rw [rounds_succ]
  go_wp2
  go_region
  go_wp2
  rw [rounds_succ]
  go_wp2
  rw [rounds_succ]
  go_wp2
  go_region_held3 (fun w' => w'.cell? ⟨w.heap.size, 0, none⟩ = some (.int .u64 (wd 0 a)) ∧ w'.cell? ⟨w.heap.size, 1, none⟩ = some (.int .u64 (wd 1 a)) ∧ w'.cell? ⟨w.heap.size, 2, none⟩ = some (.int .u64 (wd 2 a)) ∧ w'.cell? ⟨w.heap.size, 3, none⟩ = some (.int .u64 (wd 3 a)) ∧ w'.cell? ⟨w.heap.size + 1 + 1, 0, none⟩ = some (.int .u64 (sLH (wd 1 a) (wd 0 a) (64 - r))) ∧ w'.cell? ⟨w.heap.size + 1 + 1, 1, none⟩ = some (.int .u64 (sLH (wd 2 a) (wd 1 a) (64 - r))) ∧ w'.cell? ⟨w.heap.size + 1 + 1, 2, none⟩ = some (.int .u64 (sLH (wd 3 a) (wd 2 a) (64 - r))) ∧ w'.cell? ⟨w.heap.size + 1 + 1, 3, none⟩ = some (.int .u64 (sH (wd 3 a) (64 - r))))
    (first
      | (refine ⟨?_, ?_, ?_, ?_, ?_, ?_, ?_, ?_⟩ <;> (go_simp; done))
      | go_keep
      | (refine ⟨?_, ?_, ?_, ?_, ?_, ?_, ?_, ?_⟩ <;> (rw [hb.cell (by first | omega | (simp; done) | (simp; omega))]; go_simp; done)))
    (first | (go_at_call 145; refine (C.out _).mono ?_; rintro e w1 ⟨rfl, hb⟩; obtain ⟨hc, hf⟩ := bcell hb))
  go_wp2
  refine bodyPost_ret (v := .tuple #[.agg #[_, _, _, _], .bool _]) (by simp [results, Tryd.results160, go_sem, hc]) rfl ⟨rfl, ?_⟩
  repeat' (first | with_reducible exact Below.refl _ _ | with_reducible assumption | with_reducible refine Below.drew ?_ | with_reducible refine bdrewN ?_ _ | with_reducible refine Below.alloc ?_ ?_ _ | with_reducible refine Below.setCell ?_ ?_ _ | with_reducible refine Below.trans ?_ (Below.mono (by assumption) ?_) | omega | (simp; done) | (simp; omega))
set_option maxRecDepth 100000 in
set_option maxHeartbeats 4000000 in
theorem Shr_0z (a : Nat) (ha : U256 a) (k : Int) (h0 : 0 ≤ k) (hk : k < 256) (hq : k / 64 = 0) (hr : k % 64 = 0) (b : Nat) (hu : U256 b) (e : W4 b = .agg #[.int .u64 (wd 0 a), .int .u64 (wd 1 a), .int .u64 (wd 2 a), .int .u64 (wd 3 a)]) (w : World) :
    Calls Tryd.prog 160 #[W4 a, .int .i64 k] w fun e w' => e = .returned (.tuple #[W4 b, .bool (!decide (shlN b k.toNat = a))]) ∧ Below w.heap.size w w' := by
  have c := fun W => Shl_any b hu k h0 (by omega) W
  rw [e] at c ⊢
  have C := Lib.hid c
  clear c e hu
  go_enter Tryd.func160, Tryd.ntmps160
  go_wp2
  refine wp_loop_rounds 5 ?_
  rw [rounds_succ]
  go_wp2
  rw [rounds_succ]
  go_wp2
  rw [rounds_succ]
  go_wp2
  rw [rounds_succ]
  go_wp2
  rw [rounds_succ]
  go_wp2
  go_region_held3 (fun w' => w'.cell? ⟨w.heap.size, 0, none⟩ = some (.int .u64 (wd 0 a)) ∧ w'.cell? ⟨w.heap.size, 1, none⟩ = some (.int .u64 (wd 1 a)) ∧ w'.cell? ⟨w.heap.size, 2, none⟩ = some (.int .u64 (wd 2 a)) ∧ w'.cell? ⟨w.heap.size, 3, none⟩ = some (.int .u64 (wd 3 a)) ∧ w'.cell? ⟨w.heap.size + 1 + 1, 0, none⟩ = some (.int .u64 (wd 0 a)) ∧ w'.cell? ⟨w.heap.size + 1 + 1, 1, none⟩ = some (.int .u64 (wd 1 a)) ∧ w'.cell? ⟨w.heap.size + 1 + 1, 2, none⟩ = some (.int .u64 (wd 2 a)) ∧ w'.cell? ⟨w.heap.size + 1 + 1, 3, none⟩ = some (.int .u64 (wd 3 a)))
    (first
      | (refine ⟨?_, ?_, ?_, ?_, ?_, ?_, ?_, ?_⟩ <;> (go_simp; done))
      | go_keep
      | (refine ⟨?_, ?_, ?_, ?_, ?_, ?_, ?_, ?_⟩ <;> (rw [hb.cell (by first | omega | (simp; done) | (simp; omega))]; go_simp; done)))
    (first | (go_at_call 145; refine (C.out _).mono ?_; rintro e w1 ⟨rfl, hb⟩; obtain ⟨hc, hf⟩ := bcell hb))
  go_wp2
  refine bodyPost_ret (v := .tuple #[.agg #[_, _, _, _], .bool _]) (by simp [results, Tryd.results160, go_sem, hc]) rfl ⟨rfl, ?_⟩
  repeat' (first | with_reducible exact Below.refl _ _ | with_reducible assumption | with_reducible refine Below.drew ?_ | with_reducible refine bdrewN ?_ _ | with_reducible refine Below.alloc ?_ ?_ _ | with_reducible refine Below.setCell ?_ ?_ _ | with_reducible refine Below.trans ?_ (Below.mono (by assumption) ?_) | omega | (simp; done) | (simp; omega))
set_option maxRecDepth 100000 in
set_option maxHeartbeats 4000000 in
theorem Shr_1p (a : Nat) (ha : U256 a) (k : Int) (h0 : 0 ≤ k) (hk : k < 256) (hq : k / 64 = 1) (r : Nat) (hr : k % 64 = r) (hr1 : 0 < r) (hr2 : r < 64) (b : Nat) (hu : U256 b) (e : W4 b = .agg #[.int .u64 (sLH (wd 2 a) (wd 1 a) (64 - r)), .int .u64 (sLH (wd 3 a) (wd 2 a) (64 - r)), .int .u64 (sH (wd 3 a) (64 - r)), .int .u64 0]) (w : World) :
    Calls Tryd.prog 160 #[W4 a, .int .i64 k] w fun e w' => e = .returned (.tuple #[W4 b, .bool (!decide (shlN b k.toNat = a))]) ∧ Below w.heap.size w w' := by
  have c := fun W => Shl_any b hu k h0 (by omega) W
  rw [e] at c ⊢
  have C := Lib.hid c
  clear c e hu
  go_enter Tryd.func160, Tryd.ntmps160
  go_wp2
  refine wp_loop_rounds 5 ?_
  rw [rounds_succ]
  go_wp2
  go_region
  go_wp2
  rw [rounds_succ]
  go_wp2
  go_region
  go_wp2
  rw [rounds_succ]
  go_wp2
  rw [rounds_succ]
  go_wp2
  rw [rounds_succ]
  go_wp2
  go_region_held3 (fun w' => w'.cell? ⟨w.heap.size, 0, none⟩ = some (.int .u64 (wd 0 a)) ∧ w'.cell? ⟨w.heap.size, 1, none⟩ = some (.int .u64 (wd 1 a)) ∧ w'.cell? ⟨w.heap.size, 2, none⟩ = some (.int .u64 (wd 2 a)) ∧ w'.cell? ⟨w.heap.size, 3, none⟩ = some (.int .u64 (wd 3 a)) ∧ w'.cell? ⟨w.heap.size + 1 + 1, 0, none⟩ = some (.int .u64 (sLH (wd 2 a) (wd 1 a) (64 - r))) ∧ w'.cell? ⟨w.heap.size + 1 + 1, 1, none⟩ = some (.int .u64 (sLH (wd 3 a) (wd 2 a) (64 - r))) ∧ w'.cell? ⟨w.heap.size + 1 + 1, 2, none⟩ = some (.int .u64 (sH (wd 3 a) (64 - r))) ∧ w'.cell? ⟨w.heap.size + 1 + 1, 3, none⟩ = some (.int .u64 0))
    (first
      | (refine ⟨?_, ?_, ?_, ?_, ?_, ?_, ?_, ?_⟩ <;> (go_simp; done))
      | go_keep
      | (refine ⟨?_, ?_, ?_, ?_, ?_, ?_, ?_, ?_⟩ <;> (rw [hb.cell (by first | omega | (simp; done) | (simp; omega))]; go_simp; done)))
    (first | (go_at_call 145; refine (C.out _).mono ?_; rintro e w1 ⟨rfl, hb⟩; obtain ⟨hc, hf⟩ := bcell hb))
  go_wp2
  refine bodyPost_ret (v := .tuple #[.agg #[_, _, _, _], .bool _]) (by simp [results, Tryd.results160, go_sem, hc]) rfl ⟨rfl, ?_⟩
  repeat' (first | with_reducible exact Below.refl _ _ | with_reducible assumption | with_reducible refine Below.drew ?_ | with_reducible refine bdrewN ?_ _ | with_reducible refine Below.alloc ?_ ?_ _ | with_reducible refine Below.setCell ?_ ?_ _ | with_reducible refine Below.trans ?_ (Below.mono (by assumption) ?_) | omega | (simp; done) | (simp; omega))
set_option maxRecDepth 100000 in
set_option maxHeartbeats 4000000 in
theorem Shr_1z (a : Nat) (ha : U256 a) (k : Int) (h0 : 0 ≤ k) (hk : k < 256) (hq : k / 64 = 1) (hr : k % 64 = 0) (b : Nat) (hu : U256 b) (e : W4 b = .agg #[.int .u64 (wd 1 a), .int .u64 (wd 2 a), .int .u64 (wd 3 a), .int .u64 0]) (w : World) :
    Calls Tryd.prog 160 #[W4 a, .int .i64 k] w fun e w' => e = .returned (.tuple #[W4 b, .bool (!decide (shlN b k.toNat = a))]) ∧ Below w.heap.size w w' := by
  have c := fun W => Shl_any b hu k h0 (by omega) W
  rw [e] at c ⊢
  have C := Lib.hid c
  clear c e hu
  go_enter Tryd.func160, Tryd.ntmps160
  go_wp2
  refine wp_loop_rounds 5 ?_
  rw [rounds_succ]
  go_wp2
  rw [rounds_succ]
  go_wp2
  rw [rounds_succ]
  go_wp2
  rw [rounds_succ]
  go_wp2
  rw [rounds_succ]
  go_wp2
  go_region_held3 (fun w' => w'.cell? ⟨w.heap.size, 0, none⟩ = some (.int .u64 (wd 0 a)) ∧ w'.cell? ⟨w.heap.size, 1, none⟩ = some (.int .u64 (wd 1 a)) ∧ w'.cell? ⟨w.heap.size, 2, none⟩ = some (.int .u64 (wd 2 a)) ∧ w'.cell? ⟨w.heap.size, 3, none⟩ = some (.int .u64 (wd 3 a)) ∧ w'.cell? ⟨w.heap.size + 1 + 1, 0, none⟩ = some (.int .u64 (wd 1 a)) ∧ w'.cell? ⟨w.heap.size + 1 + 1, 1, none⟩ = some (.int .u64 (wd 2 a)) ∧ w'.cell? ⟨w.heap.size + 1 + 1, 2, none⟩ = some (.int .u64 (wd 3 a)) ∧ w'.cell? ⟨w.heap.size + 1 + 1, 3, none⟩ = some (.int .u64 0))
    (first
      | (refine ⟨?_, ?_, ?_, ?_, ?_, ?_, ?_, ?_⟩ <;> (go_simp; done))
      | go_keep
      | (refine ⟨?_, ?_, ?_, ?_, ?_, ?_, ?_, ?_⟩ <;> (rw [hb.cell (by first | omega | (simp; done) | (simp; omega))]; go_simp; done)))
    (first | (go_at_call 145; refine (C.out _).mono ?_; rintro e w1 ⟨rfl, hb⟩; obtain ⟨hc, hf⟩ := bcell hb))
  go_wp2
  refine bodyPost_ret (v := .tuple #[.agg #[_, _, _, _], .bool _]) (by simp [results, Tryd.results160, go_sem, hc]) rfl ⟨rfl, ?_⟩
  repeat' (first | with_reducible exact Below.refl _ _ | with_reducible assumption | with_reducible refine Below.drew ?_ | with_reducible refine bdrewN ?_ _ | with_reducible refine Below.alloc ?_ ?_ _ | with_reducible refine Below.setCell ?_ ?_ _ | with_reducible refine Below.trans ?_ (Below.mono (by assumption) ?_) | omega | (simp; done) | (simp; omega))
set_option maxRecDepth 100000 in
set_option maxHeartbeats 4000000 in
theorem Shr_2p (a : Nat) (ha : U256 a) (k : Int) (h0 : 0 ≤ k) (hk : k < 256) (hq : k / 64 = 2) (r : Nat) (hr : k % 64 = r) (hr1 : 0 < r) (hr2 : r < 64) (b : Nat) (hu : U256 b) (e : W4 b = .agg #[.int .u64 (sLH (wd 3 a) (wd 2 a) (64 - r)), .int .u64 (sH (wd 3 a) (64 - r)), .int .u64 0, .int .u64 0]) (w : World) :
    Calls Tryd.prog 160 #[W4 a, .int .i64 k] w fun e w' => e = .returned (.tuple #[W4 b, .bool (!decide (shlN b k.toNat = a))]) ∧ Below w.heap.size w w' := by
  have c := fun W => Shl_any b hu k h0 (by omega) W
  rw [e] at c ⊢
  have C := Lib.hid c
  clear c e hu
  go_enter Tryd.func160, Tryd.ntmps160
  go_wp2
  refine wp_loop_rounds 5 ?_
  rw [rounds_succ]
  go_wp2
  go_region
  go_wp2
  rw [rounds_succ]
  go_wp2
  rw [rounds_succ]
  go_wp2
  rw [rounds_succ]
  go_wp2
  rw [rounds_succ]
  go_wp2
  go_region_held3 (fun w' => w'.cell? ⟨w.heap.size, 0, none⟩ = some (.int .u64 (wd 0 a)) ∧ w'.cell? ⟨w.heap.size, 1, none⟩ = some (.int .u64 (wd 1 a)) ∧ w'.cell? ⟨w.heap.size, 2, none⟩ = some (.int .u64 (wd 2 a)) ∧ w'.cell? ⟨w.heap.size, 3, none⟩ = some (.int .u64 (wd 3 a)) ∧ w'.cell? ⟨w.heap.size + 1 + 1, 0, none⟩ = some (.int .u64 (sLH (wd 3 a) (wd 2 a) (64 - r))) ∧ w'.cell? ⟨w.heap.size + 1 + 1, 1, none⟩ = some (.int .u64 (sH (wd 3 a) (64 - r))) ∧ w'.cell? ⟨w.heap.size + 1 + 1, 2, none⟩ = some (.int .u64 0) ∧ w'.cell? ⟨w.heap.size + 1 + 1, 3, none⟩ = some (.int .u64 0))
    (first
      | (refine ⟨?_, ?_, ?_, ?_, ?_, ?_, ?_, ?_⟩ <;> (go_simp; done))
      | go_keep
      | (refine ⟨?_, ?_, ?_, ?_, ?_, ?_, ?_, ?_⟩ <;> (rw [hb.cell (by first | omega | (simp; done) | (simp; omega))]; go_simp; done)))
    (first | (go_at_call 145; refine (C.out _).mono ?_; rintro e w1 ⟨rfl, hb⟩; obtain ⟨hc, hf⟩ := bcell hb))
  go_wp2
  refine bodyPost_ret (v := .tuple #[.agg #[_, _, _, _], .bool _]) (by simp [results, Tryd.results160, go_sem, hc]) rfl ⟨rfl, ?_⟩
  repeat' (first | with_reducible exact Below.refl _ _ | with_reducible assumption | with_reducible refine Below.drew ?_ | with_reducible refine bdrewN ?_ _ | with_reducible refine Below.alloc ?_ ?_ _ | with_reducible refine Below.setCell ?_ ?_ _ | with_reducible refine Below.trans ?_ (Below.mono (by assumption) ?_) | omega | (simp; done) | (simp; omega))
set_option maxRecDepth 100000 in
set_option maxHeartbeats 4000000 in
theorem Shr_2z (a : Nat) (ha : U256 a) (k : Int) (h0 : 0 ≤ k) (hk : k < 256) (hq : k / 64 = 2) (hr : k % 64 = 0) (b : Nat) (hu : U256 b) (e : W4 b = .agg #[.int .u64 (wd 2 a), .int .u64 (wd 3 a), .int .u64 0, .int .u64 0]) (w : World) :
    Calls Tryd.prog 160 #[W4 a, .int .i64 k] w fun e w' => e = .returned (.tuple #[W4 b, .bool (!decide (shlN b k.toNat = a))]) ∧ Below w.heap.size w w' := by
  have c := fun W => Shl_any b hu k h0 (by omega) W
  rw [e] at c ⊢
  have C := Lib.hid c
  clear c e hu
  go_enter Tryd.func160, Tryd.ntmps160
  go_wp2
  refine wp_loop_rounds 5 ?_
  rw [rounds_succ]
  go_wp2
  rw [rounds_succ]
  go_wp2
  rw [rounds_succ]
  go_wp2
  rw [rounds_succ]
  go_wp2
  rw [rounds_succ]
  go_wp2
  go_region_held3 (fun w' => w'.cell? ⟨w.heap.size, 0, none⟩ = some (.int .u64 (wd 0 a)) ∧ w'.cell? ⟨w.heap.size, 1, none⟩ = some (.int .u64 (wd 1 a)) ∧ w'.cell? ⟨w.heap.size, 2, none⟩ = some (.int .u64 (wd 2 a)) ∧ w'.cell? ⟨w.heap.size, 3, none⟩ = some (.int .u64 (wd 3 a)) ∧ w'.cell? ⟨w.heap.size + 1 + 1, 0, none⟩ = some (.int .u64 (wd 2 a)) ∧ w'.cell? ⟨w.heap.size + 1 + 1, 1, none⟩ = some (.int .u64 (wd 3 a)) ∧ w'.cell? ⟨w.heap.size + 1 + 1, 2, none⟩ = some (.int .u64 0) ∧ w'.cell? ⟨w.heap.size + 1 + 1, 3, none⟩ = some (.int .u64 0))
    (first
      | (refine ⟨?_, ?_, ?_, ?_, ?_, ?_, ?_, ?_⟩ <;> (go_simp; done))
      | go_keep
      | (refine ⟨?_, ?_, ?_, ?_, ?_, ?_, ?_, ?_⟩ <;> (rw [hb.cell (by first | omega | (simp; done) | (simp; omega))]; go_simp; done)))
    (first | (go_at_call 145; refine (C.out _).mono ?_; rintro e w1 ⟨rfl, hb⟩; obtain ⟨hc, hf⟩ := bcell hb))
  go_wp2
  refine bodyPost_ret (v := .tuple #[.agg #[_, _, _, _], .bool _]) (by simp [results, Tryd.results160, go_sem, hc]) rfl ⟨rfl, ?_⟩
  repeat' (first | with_reducible exact Below.refl _ _ | with_reducible assumption | with_reducible refine Below.drew ?_ | with_reducible refine bdrewN ?_ _ | with_reducible refine Below.alloc ?_ ?_ _ | with_reducible refine Below.setCell ?_ ?_ _ | with_reducible refine Below.trans ?_ (Below.mono (by assumption) ?_) | omega | (simp; done) | (simp; omega))
set_option maxRecDepth 100000 in
set_option maxHeartbeats 4000000 in
theorem Shr_3p (a : Nat) (ha : U256 a) (k : Int) (h0 : 0 ≤ k) (hk : k < 256) (hq : k / 64 = 3) (r : Nat) (hr : k % 64 = r) (hr1 : 0 < r) (hr2 : r < 64) (b : Nat) (hu : U256 b) (e : W4 b = .agg #[.int .u64 (sH (wd 3 a) (64 - r)), .int .u64 0, .int .u64 0, .int .u64 0]) (w : World) :
    Calls Tryd.prog 160 #[W4 a, .int .i64 k] w fun e w' => e = .returned (.tuple #[W4 b, .bool (!decide (shlN b k.toNat = a))]) ∧ Below w.heap.size w w' := by
  have c := fun W => Shl_any b hu k h0 (by omega) W
  rw [e] at c ⊢
  have C := Lib.hid c
  clear c e hu
  go_enter Tryd.func160, Tryd.ntmps160
  go_wp2
  refine wp_loop_rounds 5 ?_
  rw [rounds_succ]
  go_wp2
  rw [rounds_succ]
  go_wp2
  rw [rounds_succ]
  go_wp2
  rw [rounds_succ]
  go_wp2
  rw [rounds_succ]
  go_wp2
  go_region_held3 (fun w' => w'.cell? ⟨w.heap.size, 0, none⟩ = some (.int .u64 (wd 0 a)) ∧ w'.cell? ⟨w.heap.size, 1, none⟩ = some (.int .u64 (wd 1 a)) ∧ w'.cell? ⟨w.heap.size, 2, none⟩ = some (.int .u64 (wd 2 a)) ∧ w'.cell? ⟨w.heap.size, 3, none⟩ = some (.int .u64 (wd 3 a)) ∧ w'.cell? ⟨w.heap.size + 1 + 1, 0, none⟩ = some (.int .u64 (sH (wd 3 a) (64 - r))) ∧ w'.cell? ⟨w.heap.size + 1 + 1, 1, none⟩ = some (.int .u64 0) ∧ w'.cell? ⟨w.heap.size + 1 + 1, 2, none⟩ = some (.int .u64 0) ∧ w'.cell? ⟨w.heap.size + 1 + 1, 3, none⟩ = some (.int .u64 0))
    (first
      | (refine ⟨?_, ?_, ?_, ?_, ?_, ?_, ?_, ?_⟩ <;> (go_simp; done))
      | go_keep
      | (refine ⟨?_, ?_, ?_, ?_, ?_, ?_, ?_, ?_⟩ <;> (rw [hb.cell (by first | omega | (simp; done) | (simp; omega))]; go_simp; done)))
    (first | (go_at_call 145; refine (C.out _).mono ?_; rintro e w1 ⟨rfl, hb⟩; obtain ⟨hc, hf⟩ := bcell hb))
  go_wp2
  refine bodyPost_ret (v := .tuple #[.agg #[_, _, _, _], .bool _]) (by simp [results, Tryd.results160, go_sem, hc]) rfl ⟨rfl, ?_⟩
  repeat' (first | with_reducible exact Below.refl _ _ | with_reducible assumption | with_reducible refine Below.drew ?_ | with_reducible refine bdrewN ?_ _ | with_reducible refine Below.alloc ?_ ?_ _ | with_reducible refine Below.setCell ?_ ?_ _ | with_reducible refine Below.trans ?_ (Below.mono (by assumption) ?_) | omega | (simp; done) | (simp; omega))
set_option maxRecDepth 100000 in
set_option maxHeartbeats 4000000 in
theorem Shr_3z (a : Nat) (ha : U256 a) (k : Int) (h0 : 0 ≤ k) (hk : k < 256) (hq : k / 64 = 3) (hr : k % 64 = 0) (b : Nat) (hu : U256 b) (e : W4 b = .agg #[.int .u64 (wd 3 a), .int .u64 0, .int .u64 0, .int .u64 0]) (w : World) :
    Calls Tryd.prog 160 #[W4 a, .int .i64 k] w fun e w' => e = .returned (.tuple #[W4 b, .bool (!decide (shlN b k.toNat = a))]) ∧ Below w.heap.size w w' := by
  have c := fun W => Shl_any b hu k h0 (by omega) W
  rw [e] at c ⊢
  have C := Lib.hid c
  clear c e hu
  go_enter Tryd.func160, Tryd.ntmps160
  go_wp2
  refine wp_loop_rounds 5 ?_
  rw [rounds_succ]
  go_wp2
  rw [rounds_succ]
  go_wp2
  rw [rounds_succ]
  go_wp2
  rw [rounds_succ]
  go_wp2
  rw [rounds_succ]
  go_wp2
  go_region_held3 (fun w' => w'.cell? ⟨w.heap.size, 0, none⟩ = some (.int .u64 (wd 0 a)) ∧ w'.cell? ⟨w.heap.size, 1, none⟩ = some (.int .u64 (wd 1 a)) ∧ w'.cell? ⟨w.heap.size, 2, none⟩ = some (.int .u64 (wd 2 a)) ∧ w'.cell? ⟨w.heap.size, 3, none⟩ = some (.int .u64 (wd 3 a)) ∧ w'.cell? ⟨w.heap.size + 1 + 1, 0, none⟩ = some (.int .u64 (wd 3 a)) ∧ w'.cell? ⟨w.heap.size + 1 + 1, 1, none⟩ = some (.int .u64 0) ∧ w'.cell? ⟨w.heap.size + 1 + 1, 2, none⟩ = some (.int .u64 0) ∧ w'.cell? ⟨w.heap.size + 1 + 1, 3, none⟩ = some (.int .u64 0))
    (first
      | (refine ⟨?_, ?_, ?_, ?_, ?_, ?_, ?_, ?_⟩ <;> (go_simp; done))
      | go_keep
      | (refine ⟨?_, ?_, ?_, ?_, ?_, ?_, ?_, ?_⟩ <;> (rw [hb.cell (by first | omega | (simp; done) | (simp; omega))]; go_simp; done)))
    (first | (go_at_call 145; refine (C.out _).mono ?_; rintro e w1 ⟨rfl, hb⟩; obtain ⟨hc, hf⟩ := bcell hb))
  go_wp2
  refine bodyPost_ret (v := .tuple #[.agg #[_, _, _, _], .bool _]) (by simp [results, Tryd.results160, go_sem, hc]) rfl ⟨rfl, ?_⟩
  repeat' (first | with_reducible exact Below.refl _ _ | with_reducible assumption | with_reducible refine Below.drew ?_ | with_reducible refine bdrewN ?_ _ | with_reducible refine Below.alloc ?_ ?_ _ | with_reducible refine Below.setCell ?_ ?_ _ | with_reducible refine Below.trans ?_ (Below.mono (by assumption) ?_) | omega | (simp; done) | (simp; omega))
theorem left_iff {a k : Nat} (ha : U256 a) : (!decide (shlN (a / 2 ^ k) k = a)) = decide (a % 2 ^ k ≠ 0) := by
  rw [shlN_def, back_mod ha]
  have := Nat.div_add_mod a (2 ^ k)
  rw [Nat.mul_comm] at this
  by_cases h : a % 2 ^ k = 0
  · simp only [h, ne_eq, not_true_eq_false, decide_false, Bool.not_eq_false', decide_eq_true_eq]; omega
  · simp only [h, ne_eq, not_false_eq_true, decide_true, Bool.not_eq_true', decide_eq_false_iff_not]; omega
theorem Shr_small (a : Nat) (ha : U256 a) (k : Int) (h0 : 0 ≤ k) (hk : k < 256) (w : World) :
    Calls Tryd.prog 160 #[W4 a, .int .i64 k] w fun e w' => e = .returned (.tuple #[W4 (a / 2 ^ k.toNat), .bool (decide (a % 2 ^ k.toNat ≠ 0))]) ∧ Below w.heap.size w w' := by
  have hu : U256 (a / 2 ^ k.toNat) := Nat.lt_of_le_of_lt (Nat.div_le_self _ _) ha
  rw [← left_iff ha]
  have hr : k % 64 = ((k % 64).toNat : Int) := by omega
  have hq : k / 64 = 0 ∨ k / 64 = 1 ∨ k / 64 = 2 ∨ k / 64 = 3 := by omega
  by_cases hz : k % 64 = 0
  · rcases hq with hq | hq | hq | hq
    · exact Shr_0z a ha k h0 hk hq hz _ hu (by rw [show k.toNat = 0 + 0 from by omega]; exact shr_0z) w
    · exact Shr_1z a ha k h0 hk hq hz _ hu (by rw [show k.toNat = 64 + 0 from by omega]; exact shr_1z ha) w
    · exact Shr_2z a ha k h0 hk hq hz _ hu (by rw [show k.toNat = 128 + 0 from by omega]; exact shr_2z ha) w
    · exact Shr_3z a ha k h0 hk hq hz _ hu (by rw [show k.toNat = 192 + 0 from by omega]; exact shr_3z ha) w
  · rcases hq with hq | hq | hq | hq
    · exact Shr_0p a ha k h0 hk hq _ hr (by omega) (by omega) _ hu (by rw [show k.toNat = 0 + (k % 64).toNat from by omega]; exact shr_0 ha (by omega) (by omega)) w
    · exact Shr_1p a ha k h0 hk hq _ hr (by omega) (by omega) _ hu (by rw [show k.toNat = 64 + (k % 64).toNat from by omega]; exact shr_1 ha (by omega) (by omega)) w
    · exact Shr_2p a ha k h0 hk hq _ hr (by omega) (by omega) _ hu (by rw [show k.toNat = 128 + (k % 64).toNat from by omega]; exact shr_2 ha (by omega) (by omega)) w
    · exact Shr_3p a ha k h0 hk hq _ hr (by omega) (by omega) _ hu (by rw [show k.toNat = 192 + (k % 64).toNat from by omega]; exact shr_3 ha (by omega) (by omega)) w
end Go.Proofs.YtldmbneckcjonaaDoor
namespace Go.Proofs.YtldmbneckcjonaaDoor
open Go.RowKit
attribute [local go_sem] eqW0_run
set_option maxRecDepth 100000 in
set_option maxHeartbeats 4000000 in
theorem Shr_big (a : Nat) (ha : U256 a) (k : Int) (hk : 256 ≤ k) (w : World) :
    Calls Tryd.prog 160 #[W4 a, .int .i64 k] w fun e w' => e = .returned (.tuple #[W4 0, .bool (decide (a ≠ 0))]) ∧ Below w.heap.size w w' := by
  rw [zero_words, show decide (a ≠ 0) = !decide (a = 0) from by by_cases h : a = 0 <;> simp [h]]
  go_enter Tryd.func160, Tryd.ntmps160
  go_wp2
  go_region
  go_wp2
  refine bodyPost_ret (v := .tuple #[.agg #[_, _, _, _], .bool _]) (by simp [results, Tryd.results160, go_sem]) rfl ⟨rfl, ?_⟩
  repeat' (first | with_reducible exact Below.refl _ _ | with_reducible assumption | with_reducible refine Below.drew ?_ | with_reducible refine bdrewN ?_ _ | with_reducible refine Below.alloc ?_ ?_ _ | with_reducible refine Below.setCell ?_ ?_ _ | with_reducible refine Below.trans ?_ (Below.mono (by assumption) ?_) | omega | (simp; done) | (simp; omega))
end Go.Proofs.YtldmbneckcjonaaDoor
namespace Go.Proofs.YtldmbneckcjonaaDoor
open Go.RowKit
theorem below_drewN {B : Nat} {a w : World} (h : Below B a w) (n : Nat) : Below B a (w.drewN n) := ⟨h.os, h.tape, h.output, h.size, h.block⟩
theorem and_32 (a : Int) : bits .and .u64 a 4294967295 = a % 4294967296 := and_mask a 32 (by decide)
theorem wrap_nat (x : Int) : ∃ t : Nat, IntKind.u64.wrap x = t := ⟨(IntKind.u64.wrap x).toNat, by rw [IntKind.wrap_u64]; omega⟩
theorem cast_eq {a b : Nat} (h : a = b) : Value.int .u64 a = .int .u64 b := by rw [h]
theorem ret2_u64 {a b a' b' : Int} (h1 : a = a') (h2 : b = b') : Ending.returned (.tuple #[.int .u64 a, .int .u64 b]) = .returned (.tuple #[.int .u64 a', .int .u64 b']) := by rw [h1, h2]
/-- What the arithmetic of a division's step is: the divisor's halves, u below it, d a half word. -/
structure KD (Y h l u d : Nat) : Prop where
  hY : Y = h * 4294967296 + l
  hl : l < 4294967296
  hh : 2147483648 ≤ h
  hh2 : h < 4294967296
  hu : u < Y
  hd : d < 4294967296
theorem kd_round {Y h l u d q r t1 t2 t3 q' r' : Nat} (k : KD Y h l u d) (g : Guess h u ((u * 4294967296 + d) / Y) q r)
    (ht1 : IntKind.u64.wrap ((q : Int) * l) = t1) (ht2 : IntKind.u64.wrap (4294967296 * (r : Int)) = t2) (ht3 : IntKind.u64.wrap ((t2 : Int) + d) = t3)
    (hq' : IntKind.u64.wrap ((q : Int) - 1) = q') (hr' : IntKind.u64.wrap ((r : Int) + h) = r') :
    ((Ge32 q ∨ t3 < t1) → (Lt32 r' → Guess h u ((u * 4294967296 + d) / Y) q' r') ∧ (Ge32 r' → q' = (u * 4294967296 + d) / Y) ∧ Left32 r' < Left32 r) ∧
    (Lt32 q → ¬ t3 < t1 → q = (u * 4294967296 + d) / Y) := by
  obtain ⟨e, hQ, hq, hr⟩ := g
  obtain ⟨hY, hl, hh, hh2, hu, hd⟩ := k
  rw [IntKind.wrap_u64] at ht1 ht2 ht3 hq' hr'
  have er : r' = r + h := by omega
  have e2 : t2 = 4294967296 * r := by omega
  have e3 : t3 = 4294967296 * r + d := by omega
  have e1 : q < 4294967296 → t1 = q * l := fun hlt => by
    have : q * l ≤ 4294967295 * 4294967295 := Nat.mul_le_mul (by omega) (by omega)
    have hc : ((q * l : Nat) : Int) = (q : Int) * l := by simp
    rw [← hc] at ht1
    omega
  constructor
  · intro ht
    have hlt : (u * 4294967296 + d) / Y < q := by
      refine kd_true hY hu hd e ?_
      rcases Nat.lt_or_ge q 4294967296 with h1 | h1
      · rcases ht with ht | ht
        · exact .inl ht
        · rw [e1 h1, e3] at ht; exact .inr ht
      · exact .inl h1
    have h1q : 1 ≤ q := Nat.lt_of_le_of_lt (Nat.zero_le _) hlt
    have hle : (u * 4294967296 + d) / Y ≤ q - 1 := Nat.le_sub_one_of_lt hlt
    clear hQ
    have eq : q' = q - 1 := by clear hlt hle; omega
    rw [← eq] at hle
    have em : (q - 1) * h + (r + h) = u := by
      obtain ⟨p, rfl⟩ : ∃ p, q = p + 1 := ⟨q - 1, by omega⟩
      rw [Nat.add_mul] at e; simp only [Nat.add_sub_cancel]; omega
    refine ⟨fun hb => ⟨by rw [eq, er]; exact em, hle, by clear hlt hle; omega, hb⟩, fun hb => kd_break (h := h) (l := l) (r := r') hY hl hu (by rw [eq, er]; exact em) (by clear hlt hle; omega) hb hle, by unfold Left32; simp only [Int.toNat_natCast]; omega⟩
  · intro h1 h2
    rw [e1 h1, e3] at h2
    exact kd_false hY hu e (by omega) hQ
attribute [local go_sem] and_32 ge32_no ge32_yes
set_option maxRecDepth 100000 in
set_option maxHeartbeats 4000000 in
theorem Div64_big (hi lo y s Y h l u ud d1 d0 q0 r0 Q1 u2 p0 s0 Q0 qq rr : Nat) (hy : U64 y) (h0 : ((hi : Int) == 0) = false) (hy0 : ((y : Int) == 0) = false) (hlt : hi < y)
    (hs : (64 : Int) - (bl y : Int) = s) (hs2 : s < 64) (hY : IntKind.u64.wrap ((y : Int) * 2 ^ s) = Y) (hh : (Y : Int) / 4294967296 = h) (hl : (Y : Int) % 4294967296 = l)
    (hu : bits .or .u64 (IntKind.u64.wrap ((hi : Int) * 2 ^ s)) ((lo : Int) / 2 ^ (64 - s)) = u) (hud : IntKind.u64.wrap ((lo : Int) * 2 ^ s) = ud) (hd1 : (ud : Int) / 4294967296 = d1) (hd0 : (ud : Int) % 4294967296 = d0)
    (hh0 : 0 < h) (hq : IntKind.u64.wrap ((u : Int) / h) = q0) (hr : IntKind.u64.wrap ((u : Int) - IntKind.u64.wrap (q0 * h)) = r0)
    (k1 : KD Y h l u d1) (eQ1 : Hid ((u * 4294967296 + d1) / Y = Q1)) (g1 : Guess h u Q1 q0 r0)
    (hu2 : IntKind.u64.wrap (IntKind.u64.wrap (IntKind.u64.wrap ((u : Int) * 4294967296) + d1) - IntKind.u64.wrap (Q1 * Y)) = u2)
    (hp0 : IntKind.u64.wrap ((u2 : Int) / h) = p0) (hs0 : IntKind.u64.wrap ((u2 : Int) - IntKind.u64.wrap (p0 * h)) = s0)
    (k2 : KD Y h l u2 d0) (eQ0 : Hid ((u2 * 4294967296 + d0) / Y = Q0)) (g2 : Guess h u2 Q0 p0 s0)
    (hqq : IntKind.u64.wrap (IntKind.u64.wrap ((Q1 : Int) * 4294967296) + Q0) = qq) (hrr : IntKind.u64.wrap (IntKind.u64.wrap (IntKind.u64.wrap ((u2 : Int) * 4294967296) + d0) - IntKind.u64.wrap (Q0 * Y)) = rr) (w : World) :
    Calls Tryd.prog 156 #[.int .u64 hi, .int .u64 lo, .int .u64 y] w fun e w' => e = .returned (.tuple #[.int .u64 qq, .int .u64 (rr / 2 ^ s : Nat)]) ∧ w = w' := by
  go_enter Tryd.func156, Tryd.ntmps156
  go_upto_block 0 with (go_at_call 150; refine (LeadingZeros64_any _ hy _).mono ?_; rintro e w1 ⟨rfl, rfl⟩)
  go_cut [15, 16] (fun q _ wx => q = .int .u64 Q1 ∧ w = wx)
  case first =>
    go_wp2
    go_loop [15, 16] (fun x y => ∃ q r : Nat, x = .int .u64 q ∧ y = .int .u64 r ∧ Guess h u Q1 q r) (fun _ y => Left32 (intOf y))
    case atStart => exact ⟨_, _, rfl, rfl, g1⟩
    case round =>
      obtain ⟨q, r, rfl, rfl, hg⟩ := hrel
      obtain ⟨t1, ht1⟩ : ∃ t : Nat, IntKind.u64.wrap ((q : Int) * l) = t := wrap_nat _
      obtain ⟨t2, ht2⟩ : ∃ t : Nat, IntKind.u64.wrap (4294967296 * (r : Int)) = t := wrap_nat _
      obtain ⟨t3, ht3⟩ : ∃ t : Nat, IntKind.u64.wrap ((t2 : Int) + d1) = t := wrap_nat _
      obtain ⟨q', hq'⟩ : ∃ t : Nat, IntKind.u64.wrap ((q : Int) - 1) = t := wrap_nat _
      obtain ⟨r', hr'⟩ : ∃ t : Nat, IntKind.u64.wrap ((r : Int) + h) = t := wrap_nat _
      have G := kd_round k1 (by rw [eQ1.out]; exact hg) ht1 ht2 ht3 hq' hr'
      rw [eQ1.out] at G
      have G := Lib.hid G
      rcases lt32_or q with hq0 | hq0
      · by_cases hc : t3 < t1
        · rcases lt32_or r' with hb | hb
          · go_wp2
            go_round
            case rel => exact ⟨q', r', rfl, rfl, (G.out.1 (.inr hc)).1 hb⟩
            case measure => simp only [intOf]; exact (G.out.1 (.inr hc)).2.2
          · go_wp2
            go_meet
            (first | exact ⟨rfl, rfl⟩ | exact ⟨by rw [(G.out.1 (.inr hc)).2.1 hb], rfl⟩)
        · go_wp2
          go_meet
          (first | exact ⟨rfl, rfl⟩ | exact ⟨by rw [G.out.2 hq0 hc], rfl⟩)
      · rcases lt32_or r' with hb | hb
        · go_wp2
          go_round
          case rel => exact ⟨q', r', rfl, rfl, (G.out.1 (.inl hq0)).1 hb⟩
          case measure => simp only [intOf]; exact (G.out.1 (.inl hq0)).2.2
        · go_wp2
          go_meet
          (first | exact ⟨rfl, rfl⟩ | exact ⟨by rw [(G.out.1 (.inl hq0)).2.1 hb], rfl⟩)
  obtain ⟨rfl, rfl⟩ := hcut
  go_upto_block 2 with (fail)
  go_cut [18, 16] (fun q _ wx => q = .int .u64 Q0 ∧ w = wx)
  case first =>
    go_wp2
    go_loop [18, 16] (fun x y => ∃ q r : Nat, x = .int .u64 q ∧ y = .int .u64 r ∧ Guess h u2 Q0 q r) (fun _ y => Left32 (intOf y))
    case atStart => exact ⟨_, _, rfl, rfl, g2⟩
    case round =>
      obtain ⟨q, r, rfl, rfl, hg⟩ := hrel
      obtain ⟨t1, ht1⟩ : ∃ t : Nat, IntKind.u64.wrap ((q : Int) * l) = t := wrap_nat _
      obtain ⟨t2, ht2⟩ : ∃ t : Nat, IntKind.u64.wrap (4294967296 * (r : Int)) = t := wrap_nat _
      obtain ⟨t3, ht3⟩ : ∃ t : Nat, IntKind.u64.wrap ((t2 : Int) + d0) = t := wrap_nat _
      obtain ⟨q', hq'⟩ : ∃ t : Nat, IntKind.u64.wrap ((q : Int) - 1) = t := wrap_nat _
      obtain ⟨r', hr'⟩ : ∃ t : Nat, IntKind.u64.wrap ((r : Int) + h) = t := wrap_nat _
      have G := kd_round k2 (by rw [eQ0.out]; exact hg) ht1 ht2 ht3 hq' hr'
      rw [eQ0.out] at G
      have G := Lib.hid G
      rcases lt32_or q with hq0 | hq0
      · by_cases hc : t3 < t1
        · rcases lt32_or r' with hb | hb
          · go_wp2
            go_round
            case rel => exact ⟨q', r', rfl, rfl, (G.out.1 (.inr hc)).1 hb⟩
            case measure => simp only [intOf]; exact (G.out.1 (.inr hc)).2.2
          · go_wp2
            go_meet
            (first | exact ⟨rfl, rfl⟩ | exact ⟨by rw [(G.out.1 (.inr hc)).2.1 hb], rfl⟩)
        · go_wp2
          go_meet
          (first | exact ⟨rfl, rfl⟩ | exact ⟨by rw [G.out.2 hq0 hc], rfl⟩)
      · rcases lt32_or r' with hb | hb
        · go_wp2
          go_round
          case rel => exact ⟨q', r', rfl, rfl, (G.out.1 (.inl hq0)).1 hb⟩
          case measure => simp only [intOf]; exact (G.out.1 (.inl hq0)).2.2
        · go_wp2
          go_meet
          (first | exact ⟨rfl, rfl⟩ | exact ⟨by rw [(G.out.1 (.inl hq0)).2.1 hb], rfl⟩)
  obtain ⟨rfl, rfl⟩ := hcut
  go_wp2
  go_ret2
  exact ⟨ret2_u64 rfl (by simp), rfl⟩
set_option maxRecDepth 100000 in
set_option maxHeartbeats 400000 in
theorem Div64_zero (lo y : Nat) (hy0 : ((y : Int) == 0) = false) (hlt : 0 < y) (qq rr : Nat) (hq : (lo : Int) / y = qq) (hr : (lo : Int) % y = rr) (hqq : IntKind.u64.wrap (qq : Int) = qq) (w : World) :
    Calls Tryd.prog 156 #[.int .u64 0, .int .u64 lo, .int .u64 y] w fun e w' => e = .returned (.tuple #[.int .u64 qq, .int .u64 rr]) ∧ Below w.heap.size w w' := by
  go_enter Tryd.func156, Tryd.ntmps156
  go_wp2
  go_quiet (fail)
  go_wp2
  go_ret2
  exact ⟨ret2_u64 rfl hr, below_drewN (Below.refl _ _) _⟩
theorem wrap_small {x : Nat} (h : x < 18446744073709551616) : IntKind.u64.wrap (x : Int) = x := by rw [IntKind.wrap_u64]; omega
theorem wrap_mul {x y : Nat} (h : x * y < 18446744073709551616) : IntKind.u64.wrap ((x : Int) * y) = ((x * y : Nat) : Int) := by
  rw [show (x : Int) * y = ((x * y : Nat) : Int) from by simp, wrap_small h]
/-- The rest by wrapped arithmetic. -/
theorem wrap_rest {u d Y Q : Nat} (hY : Y < 18446744073709551616) (h0 : 0 < Y) (hQ : Q = (u * 4294967296 + d) / Y) :
    IntKind.u64.wrap (IntKind.u64.wrap (IntKind.u64.wrap ((u : Int) * 4294967296) + d) - IntKind.u64.wrap (Q * Y)) = ((u * 4294967296 + d) % Y : Nat) := by
  have h1 := Nat.mod_lt (u * 4294967296 + d) h0
  have h2 := Nat.div_add_mod (u * 4294967296 + d) Y
  have h3 : ((Y * Q : Nat) : Int) = (Q : Int) * Y := by rw [Nat.mul_comm]; simp
  rw [← hQ] at h2
  simp only [IntKind.wrap_u64]
  rw [← h3]
  generalize (u * 4294967296 + d) % Y = m at *
  generalize Y * Q = p at *
  omega
theorem wrap_rest0 {u h q : Nat} (hu : u < 18446744073709551616) (hq : q = u / h) :
    IntKind.u64.wrap ((u : Int) - IntKind.u64.wrap (q * h)) = (u % h : Nat) := by
  have h2 := Nat.div_add_mod u h
  rw [← hq] at h2
  have h3 : ((h * q : Nat) : Int) = (q : Int) * h := by rw [Nat.mul_comm]; simp
  simp only [IntKind.wrap_u64]
  rw [← h3]
  generalize u % h = m at *
  generalize h * q = p at *
  omega
theorem wrap_join {a b : Nat} (ha : a < 4294967296) (hb : b < 4294967296) : IntKind.u64.wrap (IntKind.u64.wrap ((a : Int) * 4294967296) + b) = ((a * 4294967296 + b : Nat) : Int) := by
  simp only [IntKind.wrap_u64]; omega
theorem guess_start {Y h l u d : Nat} (k : KD Y h l u d) : Guess h u ((u * 4294967296 + d) / Y) (u / h) (u % h) := by
  obtain ⟨hY, hl, hh, hh2, hu, hd⟩ := k
  have h1 := Nat.div_add_mod u h
  have h2 := Nat.mod_lt u (show 0 < h by omega)
  exact ⟨by rw [Nat.mul_comm]; exact h1, kd_start hY hh hu hd, kd_start_le hY hl hh hu, by omega⟩
theorem Div64_any (hi lo y : Nat) (hlo : U64 lo) (hy : U64 y) (hlt : hi < y) (w : World) :
    Calls Tryd.prog 156 #[.int .u64 hi, .int .u64 lo, .int .u64 y] w fun e w' => e = .returned (.tuple #[.int .u64 ((hi * 18446744073709551616 + lo) / y : Nat), .int .u64 ((hi * 18446744073709551616 + lo) % y : Nat)]) ∧ Below w.heap.size w w' := by
  have hlo' := hlo.out
  have hy' := hy.out
  by_cases h0 : hi = 0
  · subst h0
    have hle : lo / y ≤ lo := Nat.div_le_self _ _
    have := Div64_zero lo y (by rw [beq_eq_false_iff_ne]; omega) (by omega) (lo / y) (lo % y) (by simp) (by simp) (wrap_small (by omega)) w
    simpa using this
  have hb1 := bl_word_le hy
  have hb0 : 0 < bl y := bl_pos.2 (by omega)
  obtain ⟨s, hs⟩ : ∃ s, s = 64 - bl y := ⟨_, rfl⟩
  have hs64 : s < 64 := by omega
  have hyp := lt_two_bl y
  have hyl := two_bl_le (show y ≠ 0 by omega)
  have e64 : 2 ^ bl y * 2 ^ s = 18446744073709551616 := by rw [← Nat.pow_add, show bl y + s = 64 from by omega]
  have e63 : 2 ^ (bl y - 1) * 2 ^ s = 9223372036854775808 := by rw [← Nat.pow_add, show bl y - 1 + s = 63 from by omega]
  have hY1 : y * 2 ^ s < 18446744073709551616 := by rw [← e64]; exact Nat.mul_lt_mul_of_pos_right hyp (Nat.two_pow_pos s)
  have hY2 : 9223372036854775808 ≤ y * 2 ^ s := by rw [← e63]; exact Nat.mul_le_mul_right _ hyl
  have hhi : hi * 2 ^ s < y * 2 ^ s := Nat.mul_lt_mul_of_pos_right hlt (Nat.two_pow_pos s)
  have el : lo * 2 ^ s = sL lo s + 18446744073709551616 * sH lo s := s_spec hs64
  have eh : sL hi s = hi * 2 ^ s := by have := s_spec (x := hi) hs64; have := sL_lt hi s; omega
  have hu1 : sLH hi lo s = hi * 2 ^ s + sH lo s := by unfold sLH; rw [eh]
  have hsl := sL_lt lo s
  have eN : (hi * 18446744073709551616 + lo) * 2 ^ s = sLH hi lo s * 18446744073709551616 + sL lo s := by
    rw [hu1, Nat.add_mul, el, Nat.mul_right_comm]; omega
  have hNlt : (hi * 18446744073709551616 + lo) * 2 ^ s < 18446744073709551616 * (y * 2 ^ s) := by
    rw [← Nat.mul_assoc]
    exact Nat.mul_lt_mul_of_pos_right (by omega) (Nat.two_pow_pos s)
  have huY : sLH hi lo s < y * 2 ^ s := by rw [eN] at hNlt; omega
  have hor : bits .or .u64 (IntKind.u64.wrap ((hi : Int) * 2 ^ s)) ((lo : Int) / 2 ^ (64 - s)) = (sLH hi lo s : Nat) := by
    rw [wrap_sL, div_sH, or_sLH hlo hs64]
  have hYw : IntKind.u64.wrap ((y : Int) * 2 ^ s) = ((y * 2 ^ s : Nat) : Int) := by
    have := wrap_mul (x := y) (y := 2 ^ s) hY1
    rwa [show (((2 : Nat) ^ s : Nat) : Int) = (2 : Int) ^ s from by simp] at this
  have hdv : ∀ z : Nat, (hi * 18446744073709551616 + lo) * 2 ^ s = z → z / (y * 2 ^ s) = (hi * 18446744073709551616 + lo) / y ∧ z % (y * 2 ^ s) / 2 ^ s = (hi * 18446744073709551616 + lo) % y := by
    intro z hz
    subst hz
    exact ⟨Nat.mul_div_mul_right _ _ (Nat.two_pow_pos s), by rw [Nat.mul_mod_mul_right, Nat.mul_div_cancel _ (Nat.two_pow_pos s)]⟩
  obtain ⟨hq1, hq2⟩ := hdv _ eN
  clear hdv
  generalize y * 2 ^ s = Y at *
  generalize sLH hi lo s = u at *
  generalize hud : sL lo s = ud at *
  have k1 : KD Y (Y / 4294967296) (Y % 4294967296) u (ud / 4294967296) := ⟨by omega, by omega, by omega, by omega, huY, by omega⟩
  have hY0 : 0 < Y := by omega
  have hum := Nat.mod_lt (u * 4294967296 + ud / 4294967296) hY0
  have k2 : KD Y (Y / 4294967296) (Y % 4294967296) ((u * 4294967296 + ud / 4294967296) % Y) (ud % 4294967296) := ⟨by omega, by omega, by omega, by omega, hum, by omega⟩
  have hQ1 := kd_lt k1.hu k1.hd
  have hQ0 := kd_lt k2.hu k2.hd
  have hj := kd_join (m := u * 4294967296 + ud / 4294967296) (b := ud % 4294967296) hY0
  have hjoin : (u * 4294967296 + ud / 4294967296) * 4294967296 + ud % 4294967296 = u * 18446744073709551616 + ud := by omega
  rw [hjoin] at hj
  have hle1 : u / (Y / 4294967296) ≤ u := Nat.div_le_self _ _
  have hle2 : (u * 4294967296 + ud / 4294967296) % Y / (Y / 4294967296) ≤ (u * 4294967296 + ud / 4294967296) % Y := Nat.div_le_self _ _
  have fin := Div64_big hi lo y s Y (Y / 4294967296) (Y % 4294967296) u ud (ud / 4294967296) (ud % 4294967296) (u / (Y / 4294967296)) (u % (Y / 4294967296)) ((u * 4294967296 + ud / 4294967296) / Y) ((u * 4294967296 + ud / 4294967296) % Y)
    ((u * 4294967296 + ud / 4294967296) % Y / (Y / 4294967296)) ((u * 4294967296 + ud / 4294967296) % Y % (Y / 4294967296)) (((u * 4294967296 + ud / 4294967296) % Y * 4294967296 + ud % 4294967296) / Y)
    ((u * 18446744073709551616 + ud) / Y) ((u * 18446744073709551616 + ud) % Y) hy (by rw [beq_eq_false_iff_ne]; omega) (by rw [beq_eq_false_iff_ne]; omega) hlt
    (by omega) hs64 hYw (by simp) (by simp) hor (by rw [wrap_sL, hud]) (by simp) (by simp) (by omega)
    (by rw [← Int.natCast_ediv]; exact wrap_small (by omega)) (wrap_rest0 (by omega) rfl) k1 (Lib.hid rfl) (guess_start k1) (wrap_rest (by omega) hY0 rfl)
    (by rw [← Int.natCast_ediv]; exact wrap_small (by omega)) (wrap_rest0 (by omega) rfl) k2 (Lib.hid rfl) (guess_start k2)
    (by rw [← hj.1]; exact wrap_join hQ1 hQ0) (by rw [← hj.2]; exact wrap_rest (by omega) hY0 rfl) w
  rw [hq1, hq2] at fin
  exact fin.mono fun e w' ⟨h1, h2⟩ => ⟨h1, h2 ▸ Below.refl _ _⟩
end Go.Proofs.YtldmbneckcjonaaDoor
namespace Go.Proofs.YtldmbneckcjonaaDoor
open Go.RowKit
@[irreducible] def dvQ (hi lo y : Nat) : Nat := (hi * 18446744073709551616 + lo) / y
@[irreducible] def dvR (hi lo y : Nat) : Nat := (hi * 18446744073709551616 + lo) % y
theorem dvR_lt (hi lo : Nat) {y : Nat} (h : 0 < y) : dvR hi lo y < y := by unfold dvR; exact Nat.mod_lt _ h
theorem dvQ_lt {hi lo y : Nat} (hlo : U64 lo) (h : hi < y) : U64 (dvQ hi lo y) := by
  have := hlo.out
  unfold dvQ U64
  rw [Nat.div_lt_iff_lt_mul (by omega)]; omega
theorem dv_spec (hi lo y : Nat) : hi * 18446744073709551616 + lo = y * dvQ hi lo y + dvR hi lo y := by unfold dvQ dvR; exact (Nat.div_add_mod _ _).symm
theorem Div64_w (hi lo y : Nat) (hlo : U64 lo) (hy : U64 y) (hlt : hi < y) (w : World) :
    Calls Tryd.prog 156 #[.int .u64 hi, .int .u64 lo, .int .u64 y] w fun e w' => e = .returned (.tuple #[.int .u64 (dvQ hi lo y), .int .u64 (dvR hi lo y)]) ∧ Below w.heap.size w w' := by
  have := Div64_any hi lo y hlo hy hlt w
  unfold dvQ dvR; exact this
theorem Div64_w0 (lo y : Nat) (hlo : U64 lo) (hy : U64 y) (hlt : 0 < y) (w : World) :
    Calls Tryd.prog 156 #[.int .u64 0, .int .u64 lo, .int .u64 y] w fun e w' => e = .returned (.tuple #[.int .u64 (dvQ 0 lo y), .int .u64 (dvR 0 lo y)]) ∧ Below w.heap.size w w' := Div64_w 0 lo y hlo hy hlt w
theorem of4_dist (d x y z t : Nat) : d * of4 x y z t = of4 (d * x) (d * y) (d * z) (d * t) := by
  unfold of4; rw [Nat.mul_add, Nat.mul_add, Nat.mul_add, Nat.mul_left_comm d, Nat.mul_left_comm d, Nat.mul_left_comm d]
theorem div_lin {w0 w1 w2 w3 x0 x1 x2 x3 r0 r1 r2 r3 : Nat} (s3 : w3 = x3 + r3) (s2 : r3 * 18446744073709551616 + w2 = x2 + r2) (s1 : r2 * 18446744073709551616 + w1 = x1 + r1) (s0 : r1 * 18446744073709551616 + w0 = x0 + r0) :
    w0 + 18446744073709551616 * w1 + 340282366920938463463374607431768211456 * w2 + 6277101735386680763835789423207666416102355444464034512896 * w3 = x0 + 18446744073709551616 * x1 + 340282366920938463463374607431768211456 * x2 + 6277101735386680763835789423207666416102355444464034512896 * x3 + r0 := by omega
theorem div_math {a d : Nat} (ha : U256 a) (hd : 0 < d) :
    let r3 := dvR 0 (wd 3 a) d
    let r2 := dvR r3 (wd 2 a) d
    let r1 := dvR r2 (wd 1 a) d
    W4 (a / d) = .agg #[.int .u64 (dvQ r1 (wd 0 a) d), .int .u64 (dvQ r2 (wd 1 a) d), .int .u64 (dvQ r3 (wd 2 a) d), .int .u64 (dvQ 0 (wd 3 a) d)] ∧ dvR r1 (wd 0 a) d = a % d := by
  intro r3 r2 r1
  have e := of4_wd ha
  have s3 : wd 3 a = d * dvQ 0 (wd 3 a) d + r3 := by have := dv_spec 0 (wd 3 a) d; rwa [Nat.zero_mul, Nat.zero_add] at this
  have s2 : r3 * 18446744073709551616 + wd 2 a = d * dvQ r3 (wd 2 a) d + r2 := dv_spec r3 (wd 2 a) d
  have s1 : r2 * 18446744073709551616 + wd 1 a = d * dvQ r2 (wd 1 a) d + r1 := dv_spec r2 (wd 1 a) d
  have s0 := dv_spec r1 (wd 0 a) d
  have l3 : r3 < d := dvR_lt 0 (wd 3 a) hd
  have l2 : r2 < d := dvR_lt r3 (wd 2 a) hd
  have l1 : r1 < d := dvR_lt r2 (wd 1 a) hd
  have l0 := dvR_lt r1 (wd 0 a) hd
  have key : a = d * of4 (dvQ r1 (wd 0 a) d) (dvQ r2 (wd 1 a) d) (dvQ r3 (wd 2 a) d) (dvQ 0 (wd 3 a) d) + dvR r1 (wd 0 a) d := by
    conv => lhs; rw [← e]
    rw [of4_dist]; unfold of4
    exact div_lin s3 s2 s1 s0
  have hdiv : a / d = of4 (dvQ r1 (wd 0 a) d) (dvQ r2 (wd 1 a) d) (dvQ r3 (wd 2 a) d) (dvQ 0 (wd 3 a) d) := by
    conv => lhs; rw [key]
    rw [Nat.mul_add_div hd, Nat.div_eq_of_lt l0, Nat.add_zero]
  have hmod : a % d = dvR r1 (wd 0 a) d := by
    conv => lhs; rw [key]
    rw [Nat.mul_add_mod, Nat.mod_eq_of_lt l0]
  exact ⟨by rw [hdiv]; exact words_eq (dvQ_lt (wd_u64 _ _) l1) (dvQ_lt (wd_u64 _ _) l2) (dvQ_lt (wd_u64 _ _) l3) (dvQ_lt (wd_u64 _ _) hd) rfl, hmod.symm⟩
theorem bne_zero (x : Nat) : ((x : Int) != 0) = decide (x ≠ 0) := by by_cases h : x = 0 <;> simp [h]
set_option maxRecDepth 100000 in
set_option maxHeartbeats 1000000 in
theorem Div_any (a d : Nat) (ha : U256 a) (hd : U64 d) (hd0 : 0 < d) (w : World) :
    Calls Tryd.prog 144 #[W4 a, .int .u64 d] w fun e w' => e = .returned (.tuple #[W4 (a / d), .bool (decide (a % d ≠ 0))]) ∧ Below w.heap.size w w' := by
  obtain ⟨e1, e2⟩ := div_math ha hd0
  rw [e1, ← e2, ← bne_zero]
  clear e1 e2
  go_enter Tryd.func144, Tryd.ntmps144
  go_wp2
  refine wp_loop_rounds 5 ?_
  rw [rounds_succ]
  go_wp2_with fail
  refine (Div64_w0 _ _ (wd_u64 _ _) hd hd0 _).mono ?_
  rintro e w1 ⟨rfl, hb1⟩; have hz_w1 := (hb1).size; (try simp at hz_w1); have hl_w1_0 : w.heap.size < w1.heap.size := (by omega); have hl_w1_1 : w.heap.size + 1 < w1.heap.size := (by omega); have hk_w1_0_0 : w1.cell? ⟨w.heap.size, 0, none⟩ = some (.int .u64 (wd 0 a)) := (by rw [hb1.cell (p := ⟨w.heap.size, 0, none⟩) (by first | omega | (simp; done) | (simp; omega))]; go_simp; done); have hg_w1_0_0 : w1.frozen? ⟨w.heap.size, 0, none⟩ = false := (by rw [hb1.frozen (p := ⟨w.heap.size, 0, none⟩) (by first | omega | (simp; done) | (simp; omega))]; go_simp; done); have hk_w1_0_1 : w1.cell? ⟨w.heap.size, 1, none⟩ = some (.int .u64 (wd 1 a)) := (by rw [hb1.cell (p := ⟨w.heap.size, 1, none⟩) (by first | omega | (simp; done) | (simp; omega))]; go_simp; done); have hg_w1_0_1 : w1.frozen? ⟨w.heap.size, 1, none⟩ = false := (by rw [hb1.frozen (p := ⟨w.heap.size, 1, none⟩) (by first | omega | (simp; done) | (simp; omega))]; go_simp; done); have hk_w1_0_2 : w1.cell? ⟨w.heap.size, 2, none⟩ = some (.int .u64 (wd 2 a)) := (by rw [hb1.cell (p := ⟨w.heap.size, 2, none⟩) (by first | omega | (simp; done) | (simp; omega))]; go_simp; done); have hg_w1_0_2 : w1.frozen? ⟨w.heap.size, 2, none⟩ = false := (by rw [hb1.frozen (p := ⟨w.heap.size, 2, none⟩) (by first | omega | (simp; done) | (simp; omega))]; go_simp; done); have hk_w1_0_3 : w1.cell? ⟨w.heap.size, 3, none⟩ = some (.int .u64 (wd 3 a)) := (by rw [hb1.cell (p := ⟨w.heap.size, 3, none⟩) (by first | omega | (simp; done) | (simp; omega))]; go_simp; done); have hg_w1_0_3 : w1.frozen? ⟨w.heap.size, 3, none⟩ = false := (by rw [hb1.frozen (p := ⟨w.heap.size, 3, none⟩) (by first | omega | (simp; done) | (simp; omega))]; go_simp; done); have hk_w1_1_0 : w1.cell? ⟨w.heap.size + 1, 0, none⟩ = some (.int .u64 0) := (by rw [hb1.cell (p := ⟨w.heap.size + 1, 0, none⟩) (by first | omega | (simp; done) | (simp; omega))]; go_simp; done); have hg_w1_1_0 : w1.frozen? ⟨w.heap.size + 1, 0, none⟩ = false := (by rw [hb1.frozen (p := ⟨w.heap.size + 1, 0, none⟩) (by first | omega | (simp; done) | (simp; omega))]; go_simp; done); have hk_w1_1_1 : w1.cell? ⟨w.heap.size + 1, 1, none⟩ = some (.int .u64 0) := (by rw [hb1.cell (p := ⟨w.heap.size + 1, 1, none⟩) (by first | omega | (simp; done) | (simp; omega))]; go_simp; done); have hg_w1_1_1 : w1.frozen? ⟨w.heap.size + 1, 1, none⟩ = false := (by rw [hb1.frozen (p := ⟨w.heap.size + 1, 1, none⟩) (by first | omega | (simp; done) | (simp; omega))]; go_simp; done); have hk_w1_1_2 : w1.cell? ⟨w.heap.size + 1, 2, none⟩ = some (.int .u64 0) := (by rw [hb1.cell (p := ⟨w.heap.size + 1, 2, none⟩) (by first | omega | (simp; done) | (simp; omega))]; go_simp; done); have hg_w1_1_2 : w1.frozen? ⟨w.heap.size + 1, 2, none⟩ = false := (by rw [hb1.frozen (p := ⟨w.heap.size + 1, 2, none⟩) (by first | omega | (simp; done) | (simp; omega))]; go_simp; done); have hk_w1_1_3 : w1.cell? ⟨w.heap.size + 1, 3, none⟩ = some (.int .u64 0) := (by rw [hb1.cell (p := ⟨w.heap.size + 1, 3, none⟩) (by first | omega | (simp; done) | (simp; omega))]; go_simp; done); have hg_w1_1_3 : w1.frozen? ⟨w.heap.size + 1, 3, none⟩ = false := (by rw [hb1.frozen (p := ⟨w.heap.size + 1, 3, none⟩) (by first | omega | (simp; done) | (simp; omega))]; go_simp; done)
  go_wp2
  rw [rounds_succ]
  go_wp2_with fail
  refine (Div64_w _ _ _ (wd_u64 _ _) hd (dvR_lt _ _ hd0) _).mono ?_
  rintro e w2 ⟨rfl, hb2⟩; have hz_w2 := (hb2).size; (try simp at hz_w2); have hl_w2_0 : w.heap.size < w2.heap.size := (by omega); have hl_w2_1 : w.heap.size + 1 < w2.heap.size := (by omega); have hk_w2_0_0 : w2.cell? ⟨w.heap.size, 0, none⟩ = some (.int .u64 (wd 0 a)) := (by rw [hb2.cell (p := ⟨w.heap.size, 0, none⟩) (by first | omega | (simp; done) | (simp; omega))]; go_simp; done); have hg_w2_0_0 : w2.frozen? ⟨w.heap.size, 0, none⟩ = false := (by rw [hb2.frozen (p := ⟨w.heap.size, 0, none⟩) (by first | omega | (simp; done) | (simp; omega))]; go_simp; done); have hk_w2_0_1 : w2.cell? ⟨w.heap.size, 1, none⟩ = some (.int .u64 (wd 1 a)) := (by rw [hb2.cell (p := ⟨w.heap.size, 1, none⟩) (by first | omega | (simp; done) | (simp; omega))]; go_simp; done); have hg_w2_0_1 : w2.frozen? ⟨w.heap.size, 1, none⟩ = false := (by rw [hb2.frozen (p := ⟨w.heap.size, 1, none⟩) (by first | omega | (simp; done) | (simp; omega))]; go_simp; done); have hk_w2_0_2 : w2.cell? ⟨w.heap.size, 2, none⟩ = some (.int .u64 (wd 2 a)) := (by rw [hb2.cell (p := ⟨w.heap.size, 2, none⟩) (by first | omega | (simp; done) | (simp; omega))]; go_simp; done); have hg_w2_0_2 : w2.frozen? ⟨w.heap.size, 2, none⟩ = false := (by rw [hb2.frozen (p := ⟨w.heap.size, 2, none⟩) (by first | omega | (simp; done) | (simp; omega))]; go_simp; done); have hk_w2_0_3 : w2.cell? ⟨w.heap.size, 3, none⟩ = some (.int .u64 (dvQ 0 (wd 3 a) d)) := (by rw [hb2.cell (p := ⟨w.heap.size, 3, none⟩) (by first | omega | (simp; done) | (simp; omega))]; go_simp; done); have hg_w2_0_3 : w2.frozen? ⟨w.heap.size, 3, none⟩ = false := (by rw [hb2.frozen (p := ⟨w.heap.size, 3, none⟩) (by first | omega | (simp; done) | (simp; omega))]; go_simp; done); have hk_w2_1_0 : w2.cell? ⟨w.heap.size + 1, 0, none⟩ = some (.int .u64 0) := (by rw [hb2.cell (p := ⟨w.heap.size + 1, 0, none⟩) (by first | omega | (simp; done) | (simp; omega))]; go_simp; done); have hg_w2_1_0 : w2.frozen? ⟨w.heap.size + 1, 0, none⟩ = false := (by rw [hb2.frozen (p := ⟨w.heap.size + 1, 0, none⟩) (by first | omega | (simp; done) | (simp; omega))]; go_simp; done); have hk_w2_1_1 : w2.cell? ⟨w.heap.size + 1, 1, none⟩ = some (.int .u64 0) := (by rw [hb2.cell (p := ⟨w.heap.size + 1, 1, none⟩) (by first | omega | (simp; done) | (simp; omega))]; go_simp; done); have hg_w2_1_1 : w2.frozen? ⟨w.heap.size + 1, 1, none⟩ = false := (by rw [hb2.frozen (p := ⟨w.heap.size + 1, 1, none⟩) (by first | omega | (simp; done) | (simp; omega))]; go_simp; done); have hk_w2_1_2 : w2.cell? ⟨w.heap.size + 1, 2, none⟩ = some (.int .u64 0) := (by rw [hb2.cell (p := ⟨w.heap.size + 1, 2, none⟩) (by first | omega | (simp; done) | (simp; omega))]; go_simp; done); have hg_w2_1_2 : w2.frozen? ⟨w.heap.size + 1, 2, none⟩ = false := (by rw [hb2.frozen (p := ⟨w.heap.size + 1, 2, none⟩) (by first | omega | (simp; done) | (simp; omega))]; go_simp; done); have hk_w2_1_3 : w2.cell? ⟨w.heap.size + 1, 3, none⟩ = some (.int .u64 0) := (by rw [hb2.cell (p := ⟨w.heap.size + 1, 3, none⟩) (by first | omega | (simp; done) | (simp; omega))]; go_simp; done); have hg_w2_1_3 : w2.frozen? ⟨w.heap.size + 1, 3, none⟩ = false := (by rw [hb2.frozen (p := ⟨w.heap.size + 1, 3, none⟩) (by first | omega | (simp; done) | (simp; omega))]; go_simp; done)
  go_wp2
  rw [rounds_succ]
  go_wp2_with fail
  refine (Div64_w _ _ _ (wd_u64 _ _) hd (dvR_lt _ _ hd0) _).mono ?_
  rintro e w3 ⟨rfl, hb3⟩; have hz_w3 := (hb3).size; (try simp at hz_w3); have hl_w3_0 : w.heap.size < w3.heap.size := (by omega); have hl_w3_1 : w.heap.size + 1 < w3.heap.size := (by omega); have hk_w3_0_0 : w3.cell? ⟨w.heap.size, 0, none⟩ = some (.int .u64 (wd 0 a)) := (by rw [hb3.cell (p := ⟨w.heap.size, 0, none⟩) (by first | omega | (simp; done) | (simp; omega))]; go_simp; done); have hg_w3_0_0 : w3.frozen? ⟨w.heap.size, 0, none⟩ = false := (by rw [hb3.frozen (p := ⟨w.heap.size, 0, none⟩) (by first | omega | (simp; done) | (simp; omega))]; go_simp; done); have hk_w3_0_1 : w3.cell? ⟨w.heap.size, 1, none⟩ = some (.int .u64 (wd 1 a)) := (by rw [hb3.cell (p := ⟨w.heap.size, 1, none⟩) (by first | omega | (simp; done) | (simp; omega))]; go_simp; done); have hg_w3_0_1 : w3.frozen? ⟨w.heap.size, 1, none⟩ = false := (by rw [hb3.frozen (p := ⟨w.heap.size, 1, none⟩) (by first | omega | (simp; done) | (simp; omega))]; go_simp; done); have hk_w3_0_2 : w3.cell? ⟨w.heap.size, 2, none⟩ = some (.int .u64 (dvQ (dvR 0 (wd 3 a) d) (wd 2 a) d)) := (by rw [hb3.cell (p := ⟨w.heap.size, 2, none⟩) (by first | omega | (simp; done) | (simp; omega))]; go_simp; done); have hg_w3_0_2 : w3.frozen? ⟨w.heap.size, 2, none⟩ = false := (by rw [hb3.frozen (p := ⟨w.heap.size, 2, none⟩) (by first | omega | (simp; done) | (simp; omega))]; go_simp; done); have hk_w3_0_3 : w3.cell? ⟨w.heap.size, 3, none⟩ = some (.int .u64 (dvQ 0 (wd 3 a) d)) := (by rw [hb3.cell (p := ⟨w.heap.size, 3, none⟩) (by first | omega | (simp; done) | (simp; omega))]; go_simp; done); have hg_w3_0_3 : w3.frozen? ⟨w.heap.size, 3, none⟩ = false := (by rw [hb3.frozen (p := ⟨w.heap.size, 3, none⟩) (by first | omega | (simp; done) | (simp; omega))]; go_simp; done); have hk_w3_1_0 : w3.cell? ⟨w.heap.size + 1, 0, none⟩ = some (.int .u64 0) := (by rw [hb3.cell (p := ⟨w.heap.size + 1, 0, none⟩) (by first | omega | (simp; done) | (simp; omega))]; go_simp; done); have hg_w3_1_0 : w3.frozen? ⟨w.heap.size + 1, 0, none⟩ = false := (by rw [hb3.frozen (p := ⟨w.heap.size + 1, 0, none⟩) (by first | omega | (simp; done) | (simp; omega))]; go_simp; done); have hk_w3_1_1 : w3.cell? ⟨w.heap.size + 1, 1, none⟩ = some (.int .u64 0) := (by rw [hb3.cell (p := ⟨w.heap.size + 1, 1, none⟩) (by first | omega | (simp; done) | (simp; omega))]; go_simp; done); have hg_w3_1_1 : w3.frozen? ⟨w.heap.size + 1, 1, none⟩ = false := (by rw [hb3.frozen (p := ⟨w.heap.size + 1, 1, none⟩) (by first | omega | (simp; done) | (simp; omega))]; go_simp; done); have hk_w3_1_2 : w3.cell? ⟨w.heap.size + 1, 2, none⟩ = some (.int .u64 0) := (by rw [hb3.cell (p := ⟨w.heap.size + 1, 2, none⟩) (by first | omega | (simp; done) | (simp; omega))]; go_simp; done); have hg_w3_1_2 : w3.frozen? ⟨w.heap.size + 1, 2, none⟩ = false := (by rw [hb3.frozen (p := ⟨w.heap.size + 1, 2, none⟩) (by first | omega | (simp; done) | (simp; omega))]; go_simp; done); have hk_w3_1_3 : w3.cell? ⟨w.heap.size + 1, 3, none⟩ = some (.int .u64 0) := (by rw [hb3.cell (p := ⟨w.heap.size + 1, 3, none⟩) (by first | omega | (simp; done) | (simp; omega))]; go_simp; done); have hg_w3_1_3 : w3.frozen? ⟨w.heap.size + 1, 3, none⟩ = false := (by rw [hb3.frozen (p := ⟨w.heap.size + 1, 3, none⟩) (by first | omega | (simp; done) | (simp; omega))]; go_simp; done)
  go_wp2
  rw [rounds_succ]
  go_wp2_with fail
  refine (Div64_w _ _ _ (wd_u64 _ _) hd (dvR_lt _ _ hd0) _).mono ?_
  rintro e w4 ⟨rfl, hb4⟩; have hz_w4 := (hb4).size; (try simp at hz_w4); have hl_w4_0 : w.heap.size < w4.heap.size := (by omega); have hl_w4_1 : w.heap.size + 1 < w4.heap.size := (by omega); have hk_w4_0_0 : w4.cell? ⟨w.heap.size, 0, none⟩ = some (.int .u64 (wd 0 a)) := (by rw [hb4.cell (p := ⟨w.heap.size, 0, none⟩) (by first | omega | (simp; done) | (simp; omega))]; go_simp; done); have hg_w4_0_0 : w4.frozen? ⟨w.heap.size, 0, none⟩ = false := (by rw [hb4.frozen (p := ⟨w.heap.size, 0, none⟩) (by first | omega | (simp; done) | (simp; omega))]; go_simp; done); have hk_w4_0_1 : w4.cell? ⟨w.heap.size, 1, none⟩ = some (.int .u64 (dvQ (dvR (dvR 0 (wd 3 a) d) (wd 2 a) d) (wd 1 a) d)) := (by rw [hb4.cell (p := ⟨w.heap.size, 1, none⟩) (by first | omega | (simp; done) | (simp; omega))]; go_simp; done); have hg_w4_0_1 : w4.frozen? ⟨w.heap.size, 1, none⟩ = false := (by rw [hb4.frozen (p := ⟨w.heap.size, 1, none⟩) (by first | omega | (simp; done) | (simp; omega))]; go_simp; done); have hk_w4_0_2 : w4.cell? ⟨w.heap.size, 2, none⟩ = some (.int .u64 (dvQ (dvR 0 (wd 3 a) d) (wd 2 a) d)) := (by rw [hb4.cell (p := ⟨w.heap.size, 2, none⟩) (by first | omega | (simp; done) | (simp; omega))]; go_simp; done); have hg_w4_0_2 : w4.frozen? ⟨w.heap.size, 2, none⟩ = false := (by rw [hb4.frozen (p := ⟨w.heap.size, 2, none⟩) (by first | omega | (simp; done) | (simp; omega))]; go_simp; done); have hk_w4_0_3 : w4.cell? ⟨w.heap.size, 3, none⟩ = some (.int .u64 (dvQ 0 (wd 3 a) d)) := (by rw [hb4.cell (p := ⟨w.heap.size, 3, none⟩) (by first | omega | (simp; done) | (simp; omega))]; go_simp; done); have hg_w4_0_3 : w4.frozen? ⟨w.heap.size, 3, none⟩ = false := (by rw [hb4.frozen (p := ⟨w.heap.size, 3, none⟩) (by first | omega | (simp; done) | (simp; omega))]; go_simp; done); have hk_w4_1_0 : w4.cell? ⟨w.heap.size + 1, 0, none⟩ = some (.int .u64 0) := (by rw [hb4.cell (p := ⟨w.heap.size + 1, 0, none⟩) (by first | omega | (simp; done) | (simp; omega))]; go_simp; done); have hg_w4_1_0 : w4.frozen? ⟨w.heap.size + 1, 0, none⟩ = false := (by rw [hb4.frozen (p := ⟨w.heap.size + 1, 0, none⟩) (by first | omega | (simp; done) | (simp; omega))]; go_simp; done); have hk_w4_1_1 : w4.cell? ⟨w.heap.size + 1, 1, none⟩ = some (.int .u64 0) := (by rw [hb4.cell (p := ⟨w.heap.size + 1, 1, none⟩) (by first | omega | (simp; done) | (simp; omega))]; go_simp; done); have hg_w4_1_1 : w4.frozen? ⟨w.heap.size + 1, 1, none⟩ = false := (by rw [hb4.frozen (p := ⟨w.heap.size + 1, 1, none⟩) (by first | omega | (simp; done) | (simp; omega))]; go_simp; done); have hk_w4_1_2 : w4.cell? ⟨w.heap.size + 1, 2, none⟩ = some (.int .u64 0) := (by rw [hb4.cell (p := ⟨w.heap.size + 1, 2, none⟩) (by first | omega | (simp; done) | (simp; omega))]; go_simp; done); have hg_w4_1_2 : w4.frozen? ⟨w.heap.size + 1, 2, none⟩ = false := (by rw [hb4.frozen (p := ⟨w.heap.size + 1, 2, none⟩) (by first | omega | (simp; done) | (simp; omega))]; go_simp; done); have hk_w4_1_3 : w4.cell? ⟨w.heap.size + 1, 3, none⟩ = some (.int .u64 0) := (by rw [hb4.cell (p := ⟨w.heap.size + 1, 3, none⟩) (by first | omega | (simp; done) | (simp; omega))]; go_simp; done); have hg_w4_1_3 : w4.frozen? ⟨w.heap.size + 1, 3, none⟩ = false := (by rw [hb4.frozen (p := ⟨w.heap.size + 1, 3, none⟩) (by first | omega | (simp; done) | (simp; omega))]; go_simp; done)
  go_wp2
  rw [rounds_succ]
  go_wp2
  refine bodyPost_ret (v := .tuple #[.agg #[_, _, _, _], .bool _]) (by simp [results, Tryd.results144, go_sem, *]) rfl ⟨rfl, ?_⟩
  repeat' (first | with_reducible exact Below.refl _ _ | with_reducible assumption | with_reducible refine Below.drew ?_ | with_reducible refine bdrewN ?_ _ | with_reducible refine Below.alloc ?_ ?_ _ | with_reducible refine Below.setCell ?_ ?_ _ | with_reducible refine Below.trans ?_ (Below.mono (by assumption) ?_) | omega | (simp; done) | (simp; omega))
end Go.Proofs.YtldmbneckcjonaaDoor
namespace Go.Proofs.YtldmbneckcjonaaDoor
open Go.RowKit
/-- Block b: its first four cells, none of them frozen. -/
def K4 (w : World) (b : Nat) (c0 c1 c2 c3 : Value) : Prop := (w.cell? ⟨b, 0, none⟩ = some c0 ∧ w.cell? ⟨b, 1, none⟩ = some c1 ∧ w.cell? ⟨b, 2, none⟩ = some c2 ∧ w.cell? ⟨b, 3, none⟩ = some c3) ∧
  (w.frozen? ⟨b, 0, none⟩ = false ∧ w.frozen? ⟨b, 1, none⟩ = false ∧ w.frozen? ⟨b, 2, none⟩ = false ∧ w.frozen? ⟨b, 3, none⟩ = false)
section
variable {w w1 : World} {b : Nat} {c0 c1 c2 c3 : Value}
theorem K4.below {B : Nat} (h : K4 w b c0 c1 c2 c3) (hb : Below B w w1) (hlt : b < B) : K4 w1 b c0 c1 c2 c3 := by
  obtain ⟨⟨h0, h1, h2, h3⟩, f0, f1, f2, f3⟩ := h
  exact ⟨⟨(hb.cell hlt).trans h0, (hb.cell hlt).trans h1, (hb.cell hlt).trans h2, (hb.cell hlt).trans h3⟩, (hb.frozen hlt).trans f0, (hb.frozen hlt).trans f1, (hb.frozen hlt).trans f2, (hb.frozen hlt).trans f3⟩
theorem K4.drew (h : K4 w b c0 c1 c2 c3) : K4 w.drew b c0 c1 c2 c3 := h
theorem K4.alloc (h : K4 w b c0 c1 c2 c3) (hlt : b < w.heap.size) (o : Obj) : K4 (w.alloc o) b c0 c1 c2 c3 :=
  h.below ((Below.refl _ w).alloc (Nat.le_refl _) o) hlt
theorem K4.far (h : K4 w b c0 c1 c2 c3) {p : Addr} (hp : p.block ≠ b) (v : Value) : K4 (w.setCell p v) b c0 c1 c2 c3 := by
  obtain ⟨⟨h0, h1, h2, h3⟩, f0, f1, f2, f3⟩ := h
  have ne : ∀ i : Nat, p ≠ ⟨b, i, none⟩ := fun i e => hp (by rw [e])
  exact ⟨⟨(World.cell?_setCell_other _ _ _ _ (ne 0)).trans h0, (World.cell?_setCell_other _ _ _ _ (ne 1)).trans h1, (World.cell?_setCell_other _ _ _ _ (ne 2)).trans h2, (World.cell?_setCell_other _ _ _ _ (ne 3)).trans h3⟩,
    by simpa using f0, by simpa using f1, by simpa using f2, by simpa using f3⟩
theorem addr_ne (b : Nat) {i j : Nat} (h : i ≠ j) : (⟨b, i, none⟩ : Addr) ≠ ⟨b, j, none⟩ := fun e => h (by injection e)
theorem K4.set0 (h : K4 w b c0 c1 c2 c3) (v : Value) : K4 (w.setCell ⟨b, 0, none⟩ v) b v c1 c2 c3 := by
  obtain ⟨⟨h0, h1, h2, h3⟩, f0, f1, f2, f3⟩ := h
  exact ⟨⟨World.cell?_setCell_same _ _ _ h0, (World.cell?_setCell_other _ _ _ _ (addr_ne b (by decide))).trans h1, (World.cell?_setCell_other _ _ _ _ (addr_ne b (by decide))).trans h2, (World.cell?_setCell_other _ _ _ _ (addr_ne b (by decide))).trans h3⟩,
    by simpa using f0, by simpa using f1, by simpa using f2, by simpa using f3⟩
theorem K4.set1 (h : K4 w b c0 c1 c2 c3) (v : Value) : K4 (w.setCell ⟨b, 1, none⟩ v) b c0 v c2 c3 := by
  obtain ⟨⟨h0, h1, h2, h3⟩, f0, f1, f2, f3⟩ := h
  exact ⟨⟨(World.cell?_setCell_other _ _ _ _ (addr_ne b (by decide))).trans h0, World.cell?_setCell_same _ _ _ h1, (World.cell?_setCell_other _ _ _ _ (addr_ne b (by decide))).trans h2, (World.cell?_setCell_other _ _ _ _ (addr_ne b (by decide))).trans h3⟩,
    by simpa using f0, by simpa using f1, by simpa using f2, by simpa using f3⟩
theorem K4.set2 (h : K4 w b c0 c1 c2 c3) (v : Value) : K4 (w.setCell ⟨b, 2, none⟩ v) b c0 c1 v c3 := by
  obtain ⟨⟨h0, h1, h2, h3⟩, f0, f1, f2, f3⟩ := h
  exact ⟨⟨(World.cell?_setCell_other _ _ _ _ (addr_ne b (by decide))).trans h0, (World.cell?_setCell_other _ _ _ _ (addr_ne b (by decide))).trans h1, World.cell?_setCell_same _ _ _ h2, (World.cell?_setCell_other _ _ _ _ (addr_ne b (by decide))).trans h3⟩,
    by simpa using f0, by simpa using f1, by simpa using f2, by simpa using f3⟩
theorem K4.set3 (h : K4 w b c0 c1 c2 c3) (v : Value) : K4 (w.setCell ⟨b, 3, none⟩ v) b c0 c1 c2 v := by
  obtain ⟨⟨h0, h1, h2, h3⟩, f0, f1, f2, f3⟩ := h
  exact ⟨⟨(World.cell?_setCell_other _ _ _ _ (addr_ne b (by decide))).trans h0, (World.cell?_setCell_other _ _ _ _ (addr_ne b (by decide))).trans h1, (World.cell?_setCell_other _ _ _ _ (addr_ne b (by decide))).trans h2, World.cell?_setCell_same _ _ _ h3⟩,
    by simpa using f0, by simpa using f1, by simpa using f2, by simpa using f3⟩
theorem K4.put (h : K4 w b c0 c1 c2 c3) (d0 d1 d2 d3 : Value) : K4 ((((w.setCell ⟨b, 0, none⟩ d0).setCell ⟨b, 1, none⟩ d1).setCell ⟨b, 2, none⟩ d2).setCell ⟨b, 3, none⟩ d3) b d0 d1 d2 d3 :=
  (((h.set0 d0).set1 d1).set2 d2).set3 d3
end
theorem K4.new (w : World) (t : TypeId) (c0 c1 c2 c3 : Value) : K4 (w.alloc (.cells #[c0, c1, c2, c3] t)) w.heap.size c0 c1 c2 c3 := by
  refine ⟨⟨?_, ?_, ?_, ?_⟩, ?_, ?_, ?_, ?_⟩ <;> go_simp
/-- Block b holds n's four words. -/
abbrev C4 (w : World) (b n : Nat) : Prop := K4 w b (.int .u64 (wd 0 n)) (.int .u64 (wd 1 n)) (.int .u64 (wd 2 n)) (.int .u64 (wd 3 n))
end Go.Proofs.YtldmbneckcjonaaDoor
namespace Go.Proofs.YtldmbneckcjonaaDoor
open Go.RowKit
/-- Below 2^62. -/
def U62 (x : Nat) : Prop := x < 4611686018427387904
theorem U62.out {x : Nat} (h : U62 x) : x < 4611686018427387904 := h
theorem U62.word {x : Nat} (h : U62 x) : IsW (x : Int) := by have := h.out; unfold IsW; omega
@[irreducible] def sq (x : Nat) : Nat := x * x
@[irreducible] def cb (x : Nat) : Nat := x * x * x
theorem sq_lt {x : Nat} (h : U62 x) : sq x < 2 ^ 124 := by
  have h := h.out
  unfold sq
  have : x * x ≤ 4611686018427387903 * 4611686018427387903 := Nat.mul_le_mul (by omega) (by omega)
  omega
theorem cb_lt {x : Nat} (h : U62 x) : cb x < 2 ^ 186 := by
  have h1 := sq_lt h
  have h := h.out
  unfold sq at h1; unfold cb
  have : x * x * x ≤ (2 ^ 124 - 1) * 4611686018427387903 := Nat.mul_le_mul (by omega) (by omega)
  omega
theorem cb_u256 {x : Nat} (h : U62 x) : U256 (cb x) := by have := cb_lt h; unfold U256; omega
theorem Mul_sq {x : Nat} (h : U62 x) (w : World) :
    Calls Tryd.prog 151 #[.agg #[.int .u64 x, .int .u64 0], .agg #[.int .u64 x, .int .u64 0]] w fun e w' => e = .returned (W4 (sq x)) ∧ Below w.heap.size w w' := by
  have := Mul_any h.word isW_zero h.word isW_zero w
  have e : (((x : Int) + 18446744073709551616 * 0) * ((x : Int) + 18446744073709551616 * 0)).toNat = sq x := by
    unfold sq; rw [Int.mul_zero, Int.add_zero, ← Int.natCast_mul, Int.toNat_natCast]
  rw [e] at this
  exact this
theorem Mul_cb {x : Nat} (h : U62 x) (w : World) :
    Calls Tryd.prog 151 #[.agg #[.int .u64 (wd 0 (sq x)), .int .u64 (wd 1 (sq x))], .agg #[.int .u64 x, .int .u64 0]] w fun e w' => e = .returned (W4 (cb x)) ∧ Below w.heap.size w w' := by
  have := Mul_any (isW_wd 0 (sq x)) (isW_wd 1 (sq x)) h.word isW_zero w
  have e : (((wd 0 (sq x) : Int) + 18446744073709551616 * wd 1 (sq x)) * ((x : Int) + 18446744073709551616 * 0)).toNat = cb x := by
    have h1 := sq_lt h
    have h2 : (wd 0 (sq x) : Int) + 18446744073709551616 * wd 1 (sq x) = (sq x : Nat) := by rw [wd0, wd1]; omega
    rw [h2, Int.mul_zero, Int.add_zero, ← Int.natCast_mul, Int.toNat_natCast]; unfold sq cb; rfl
  rw [e] at this
  exact this
set_option maxRecDepth 100000 in
set_option maxHeartbeats 1000000 in
theorem cubed_any (x : Nat) (h : U62 x) (w : World) :
    Calls Tryd.prog 159 #[.int .u64 x] w fun e w' => e = .returned (W4 (cb x)) ∧ Below w.heap.size w w' := by
  go_enter Tryd.func159, Tryd.ntmps159
  go_wp2_with fail
  refine (Mul_sq h _).mono ?_
  rintro e w1 ⟨rfl, hb1⟩; have hz_w1 := (hb1).size; (try simp at hz_w1); have hl_w1_0 : w.heap.size < w1.heap.size := (by omega); have hk_w1_0_0 : w1.cell? ⟨w.heap.size, 0, none⟩ = some (.int .u64 0) := (by rw [hb1.cell (p := ⟨w.heap.size, 0, none⟩) (by first | omega | (simp; done) | (simp; omega))]; go_simp; done); have hg_w1_0_0 : w1.frozen? ⟨w.heap.size, 0, none⟩ = false := (by rw [hb1.frozen (p := ⟨w.heap.size, 0, none⟩) (by first | omega | (simp; done) | (simp; omega))]; go_simp; done); have hk_w1_0_1 : w1.cell? ⟨w.heap.size, 1, none⟩ = some (.int .u64 0) := (by rw [hb1.cell (p := ⟨w.heap.size, 1, none⟩) (by first | omega | (simp; done) | (simp; omega))]; go_simp; done); have hg_w1_0_1 : w1.frozen? ⟨w.heap.size, 1, none⟩ = false := (by rw [hb1.frozen (p := ⟨w.heap.size, 1, none⟩) (by first | omega | (simp; done) | (simp; omega))]; go_simp; done); have hk_w1_0_2 : w1.cell? ⟨w.heap.size, 2, none⟩ = some (.int .u64 0) := (by rw [hb1.cell (p := ⟨w.heap.size, 2, none⟩) (by first | omega | (simp; done) | (simp; omega))]; go_simp; done); have hg_w1_0_2 : w1.frozen? ⟨w.heap.size, 2, none⟩ = false := (by rw [hb1.frozen (p := ⟨w.heap.size, 2, none⟩) (by first | omega | (simp; done) | (simp; omega))]; go_simp; done); have hk_w1_0_3 : w1.cell? ⟨w.heap.size, 3, none⟩ = some (.int .u64 0) := (by rw [hb1.cell (p := ⟨w.heap.size, 3, none⟩) (by first | omega | (simp; done) | (simp; omega))]; go_simp; done); have hg_w1_0_3 : w1.frozen? ⟨w.heap.size, 3, none⟩ = false := (by rw [hb1.frozen (p := ⟨w.heap.size, 3, none⟩) (by first | omega | (simp; done) | (simp; omega))]; go_simp; done)
  go_wp2_with fail
  refine (Mul_cb h _).mono ?_
  rintro e w2 ⟨rfl, hb2⟩; have hz_w2 := (hb2).size; (try simp at hz_w2); have hl_w2_0 : w.heap.size < w2.heap.size := (by omega); have hk_w2_0_0 : w2.cell? ⟨w.heap.size, 0, none⟩ = some (.int .u64 0) := (by rw [hb2.cell (p := ⟨w.heap.size, 0, none⟩) (by first | omega | (simp; done) | (simp; omega))]; go_simp; done); have hg_w2_0_0 : w2.frozen? ⟨w.heap.size, 0, none⟩ = false := (by rw [hb2.frozen (p := ⟨w.heap.size, 0, none⟩) (by first | omega | (simp; done) | (simp; omega))]; go_simp; done); have hk_w2_0_1 : w2.cell? ⟨w.heap.size, 1, none⟩ = some (.int .u64 0) := (by rw [hb2.cell (p := ⟨w.heap.size, 1, none⟩) (by first | omega | (simp; done) | (simp; omega))]; go_simp; done); have hg_w2_0_1 : w2.frozen? ⟨w.heap.size, 1, none⟩ = false := (by rw [hb2.frozen (p := ⟨w.heap.size, 1, none⟩) (by first | omega | (simp; done) | (simp; omega))]; go_simp; done); have hk_w2_0_2 : w2.cell? ⟨w.heap.size, 2, none⟩ = some (.int .u64 0) := (by rw [hb2.cell (p := ⟨w.heap.size, 2, none⟩) (by first | omega | (simp; done) | (simp; omega))]; go_simp; done); have hg_w2_0_2 : w2.frozen? ⟨w.heap.size, 2, none⟩ = false := (by rw [hb2.frozen (p := ⟨w.heap.size, 2, none⟩) (by first | omega | (simp; done) | (simp; omega))]; go_simp; done); have hk_w2_0_3 : w2.cell? ⟨w.heap.size, 3, none⟩ = some (.int .u64 0) := (by rw [hb2.cell (p := ⟨w.heap.size, 3, none⟩) (by first | omega | (simp; done) | (simp; omega))]; go_simp; done); have hg_w2_0_3 : w2.frozen? ⟨w.heap.size, 3, none⟩ = false := (by rw [hb2.frozen (p := ⟨w.heap.size, 3, none⟩) (by first | omega | (simp; done) | (simp; omega))]; go_simp; done)
  go_wp2
  refine bodyPost_ret (v := .agg #[_, _, _, _]) (by simp [results, Tryd.results159, go_sem, *]) rfl ⟨rfl, ?_⟩
  repeat' (first | with_reducible exact Below.refl _ _ | with_reducible assumption | with_reducible refine Below.drew ?_ | with_reducible refine bdrewN ?_ _ | with_reducible refine Below.alloc ?_ ?_ _ | with_reducible refine Below.setCell ?_ ?_ _ | with_reducible refine Below.trans ?_ (Below.mono (by assumption) ?_) | omega | (simp; done) | (simp; omega))
end Go.Proofs.YtldmbneckcjonaaDoor
namespace Go.Proofs.YtldmbneckcjonaaDoor
open Go.RowKit
/-- What holds behind the rounds down to bit k + 1. -/
def CubeInv (a x : Nat) (k : Int) : Prop := x % 2 ^ (k + 1).toNat = 0 ∧ cb x ≤ a ∧ a < cb (x + 2 ^ (k + 1).toNat) ∧ x + 2 ^ (k + 1).toNat ≤ 4611686018427387904
theorem cubeInv_start {a : Nat} (ha : a < 2 ^ 186) : CubeInv a 0 61 := by
  refine ⟨rfl, by unfold cb; omega, ?_, by decide⟩
  rw [show (0 : Nat) + 2 ^ ((61 : Int) + 1).toNat = 4611686018427387904 from rfl]
  unfold cb; omega
theorem pow_two_mul (j : Nat) : 2 ^ (j + 1) = 2 * 2 ^ j := by rw [Nat.pow_succ, Nat.mul_comm]
theorem cubeInv_step {a x j : Nat} (h : CubeInv a x j) :
    (a < cb (x + 2 ^ j) → CubeInv a x ((j : Int) - 1)) ∧ (¬ a < cb (x + 2 ^ j) → CubeInv a (x + 2 ^ j) ((j : Int) - 1)) ∧ x + 2 ^ j < 4611686018427387904 ∧ x % 2 ^ (j + 1) = 0 := by
  obtain ⟨h1, h2, h3, h4⟩ := h
  have e1 : ((j : Int) + 1).toNat = j + 1 := by omega
  have e2 : ((j : Int) - 1 + 1).toNat = j := by omega
  unfold CubeInv
  rw [e2]
  rw [e1] at h1 h3 h4
  have hp := pow_two_mul j
  have hp0 := Nat.two_pow_pos j
  have hd : x % 2 ^ j = 0 := Nat.mod_eq_zero_of_dvd (Nat.dvd_trans (Nat.pow_dvd_pow 2 (Nat.le_succ j)) (Nat.dvd_of_mod_eq_zero h1))
  have e3 : x + 2 ^ j + 2 ^ j = x + 2 ^ (j + 1) := by omega
  exact ⟨fun hc => ⟨hd, h2, hc, by omega⟩, fun hc => ⟨by rw [Nat.add_mod_right]; exact hd, by omega, by rw [e3]; exact h3, by omega⟩, by omega, h1⟩
theorem cubeInv_end {a x : Nat} (h : CubeInv a x (-1)) : cb x ≤ a ∧ a < cb (x + 1) ∧ U62 x := by
  obtain ⟨_, h2, h3, h4⟩ := h
  have e : (2 : Nat) ^ ((-1 : Int) + 1).toNat = 1 := rfl
  rw [e] at h3 h4
  exact ⟨h2, h3, by unfold U62; omega⟩
theorem ret_ub {a a' : Int} {b b' : Bool} (h1 : a = a') (h2 : b = b') : Ending.returned (.tuple #[.int .u64 a, .bool b]) = .returned (.tuple #[.int .u64 a', .bool b']) := by rw [h1, h2]
/-- What Cube gives. -/
def CubeOut (a : Nat) (w0 : World) (e : Ending) (w : World) : Prop := ∃ x : Nat, e = .returned (.tuple #[.int .u64 x, .bool (decide (cb x ≠ a))]) ∧ cb x ≤ a ∧ a < cb (x + 1) ∧ U62 x ∧ Below w0.heap.size w0 w
attribute [local go_sem] eqW_run cb_u256
set_option maxRecDepth 100000 in
set_option maxHeartbeats 2000000 in
theorem Cube_any (a : Nat) (ha : U256 a) (ha2 : Hid (a < 2 ^ 186)) (w : World) :
    Calls Tryd.prog 147 #[W4 a] w (CubeOut a w) := by
  go_enter Tryd.func147, Tryd.ntmps147
  go_wp2
  go_loopw [4, 5, 6] (fun x i _ wr => ∃ (k : Int) (n : Nat), x = .int .u64 n ∧ i = .int .i64 k ∧ -1 ≤ k ∧ k ≤ 61 ∧ Hid (CubeInv a n k) ∧ Hid (C4 wr w.heap.size a) ∧ Below w.heap.size w wr ∧ w.heap.size < wr.heap.size) (fun _ i _ _ => (intOf i + 1).toNat)
  case atStart =>
    refine ⟨61, 0, rfl, rfl, by omega, by omega, cubeInv_start ha2.out, ?_, ?_, by simp⟩
    · refine ⟨⟨?_, ?_, ?_, ?_⟩, ?_, ?_, ?_, ?_⟩ <;> go_simp
    · repeat' (first | with_reducible exact Below.refl _ _ | with_reducible assumption | with_reducible refine Below.drew ?_ | with_reducible refine bdrewN ?_ _ | with_reducible refine Below.alloc ?_ ?_ _ | with_reducible refine Below.setCell ?_ ?_ _ | with_reducible refine Below.trans ?_ (Below.mono (by assumption) ?_) | omega | (simp; done) | (simp; omega))
  case round =>
    obtain ⟨k, n, rfl, rfl, hk0, hk1, hI, hC, hB, hz⟩ := hrel
    by_cases hk : 0 ≤ k
    · obtain ⟨j, rfl⟩ := Int.eq_ofNat_of_zero_le hk
      obtain ⟨hs1, hs2, hs3, hs4⟩ := cubeInv_step hI.out
      have hs1 := Lib.hid hs1
      have hs2 := Lib.hid hs2
      have hy : U62 (n + 2 ^ j) := hs3
      have hor : bits .or .u64 (n : Int) (IntKind.u64.wrap (2 ^ j)) = ((n + 2 ^ j : Nat) : Int) := by
        have h2 : 2 ^ j < 4611686018427387904 := by omega
        have e2 : (2 : Int) ^ j = ((2 ^ j : Nat) : Int) := by simp
        rw [e2, show IntKind.u64.wrap ((2 ^ j : Nat) : Int) = ((2 ^ j : Nat) : Int) from by rw [IntKind.wrap_u64]; omega]
        exact or_pow hs4 (by omega)
      clear hs3 hs4
      generalize hyy : n + 2 ^ j = y at *
      obtain ⟨⟨c0, c1, c2, c3⟩, f0, f1, f2, f3⟩ := hC.out
      by_cases hlt : a < cb y
      · go_wp2
        go_region_held3 (fun w' => w'.cell? ⟨w.heap.size, 0, none⟩ = some (.int .u64 (wd 0 a)) ∧ w'.cell? ⟨w.heap.size, 1, none⟩ = some (.int .u64 (wd 1 a)) ∧ w'.cell? ⟨w.heap.size, 2, none⟩ = some (.int .u64 (wd 2 a)) ∧ w'.cell? ⟨w.heap.size, 3, none⟩ = some (.int .u64 (wd 3 a)))
        (first
          | (refine ⟨?_, ?_, ?_, ?_⟩ <;> (go_simp; done))
          | go_keep
          | (refine ⟨?_, ?_, ?_, ?_⟩ <;> (rw [hb2.cell (by first | omega | (simp; done) | (simp; omega))]; go_simp; done))
          | (refine ⟨?_, ?_, ?_, ?_⟩ <;> (rw [hb1.cell (by first | omega | (simp; done) | (simp; omega))]; go_simp; done)))
        (first
          | (go_at_call 159; refine (cubed_any _ hy _).mono ?_; rintro e w1 ⟨rfl, hb1⟩; have hz1 := hb1.size; (try simp at hz1))
          | (go_at_call 158; refine (Less_any _ _ ha (cb_u256 hy) _).mono ?_; rintro e w2 ⟨rfl, hb2⟩; have hz2 := hb2.size; (try simp at hz2)))
        go_wp2
        have hb3 : Below wr.heap.size wr w2 := (Below.refl _ _).drew.trans (hb1.trans (hb2.mono hb1.size))
        go_roundw
        case rel => exact ⟨(j : Int) - 1, n, rfl, by go_num, by omega, by omega, hs1.out hlt, K4.below hC.out (by exact hb3) hz, Below.trans hB (Below.mono hb3 (by exact hB.size)), Nat.lt_of_lt_of_le hz hb3.size⟩
        case measure => simp only [intOf]; omega
      · go_wp2
        go_region_held3 (fun w' => w'.cell? ⟨w.heap.size, 0, none⟩ = some (.int .u64 (wd 0 a)) ∧ w'.cell? ⟨w.heap.size, 1, none⟩ = some (.int .u64 (wd 1 a)) ∧ w'.cell? ⟨w.heap.size, 2, none⟩ = some (.int .u64 (wd 2 a)) ∧ w'.cell? ⟨w.heap.size, 3, none⟩ = some (.int .u64 (wd 3 a)))
        (first
          | (refine ⟨?_, ?_, ?_, ?_⟩ <;> (go_simp; done))
          | go_keep
          | (refine ⟨?_, ?_, ?_, ?_⟩ <;> (rw [hb2.cell (by first | omega | (simp; done) | (simp; omega))]; go_simp; done))
          | (refine ⟨?_, ?_, ?_, ?_⟩ <;> (rw [hb1.cell (by first | omega | (simp; done) | (simp; omega))]; go_simp; done)))
        (first
          | (go_at_call 159; refine (cubed_any _ hy _).mono ?_; rintro e w1 ⟨rfl, hb1⟩; have hz1 := hb1.size; (try simp at hz1))
          | (go_at_call 158; refine (Less_any _ _ ha (cb_u256 hy) _).mono ?_; rintro e w2 ⟨rfl, hb2⟩; have hz2 := hb2.size; (try simp at hz2)))
        go_wp2
        have hb3 : Below wr.heap.size wr w2 := (Below.refl _ _).drew.trans (hb1.trans (hb2.mono hb1.size))
        go_roundw
        case rel => exact ⟨(j : Int) - 1, y, rfl, by go_num, by omega, by omega, hs2.out hlt, K4.below hC.out (by exact hb3) hz, Below.trans hB (Below.mono hb3 (by exact hB.size)), Nat.lt_of_lt_of_le hz hb3.size⟩
        case measure => simp only [intOf]; omega
    · obtain rfl : k = -1 := by omega
      obtain ⟨he1, he2, he3⟩ := cubeInv_end hI.out
      have he2 := Lib.hid he2
      obtain ⟨⟨c0, c1, c2, c3⟩, f0, f1, f2, f3⟩ := hC.out
      go_wp2
      go_region_held3 (fun w' => w'.cell? ⟨w.heap.size, 0, none⟩ = some (.int .u64 (wd 0 a)) ∧ w'.cell? ⟨w.heap.size, 1, none⟩ = some (.int .u64 (wd 1 a)) ∧ w'.cell? ⟨w.heap.size, 2, none⟩ = some (.int .u64 (wd 2 a)) ∧ w'.cell? ⟨w.heap.size, 3, none⟩ = some (.int .u64 (wd 3 a)))
        (first
          | (refine ⟨?_, ?_, ?_, ?_⟩ <;> (go_simp; done))
          | go_keep
          | (refine ⟨?_, ?_, ?_, ?_⟩ <;> (rw [hb2.cell (by first | omega | (simp; done) | (simp; omega))]; go_simp; done))
          | (refine ⟨?_, ?_, ?_, ?_⟩ <;> (rw [hb1.cell (by first | omega | (simp; done) | (simp; omega))]; go_simp; done)))
        (first
          | (go_at_call 159; refine (cubed_any _ he3 _).mono ?_; rintro e w1 ⟨rfl, hb1⟩; have hz1 := hb1.size; (try simp at hz1))
          )
      go_wp2
      go_ret2
      refine ⟨n, ?_, he1, he2.out, he3, ?_⟩
      · exact ret_ub rfl (by by_cases h : cb n = a <;> simp [h])
      · have hb3 : Below wr.heap.size wr w1 := (Below.refl _ _).drew.trans hb1
        exact hB.trans (hb3.mono hB.size)
end Go.Proofs.YtldmbneckcjonaaDoor
namespace Go.Proofs.YtldmbneckcjonaaDoor
/-- What holds behind the rounds down to bit k + 2: x is the root of a's bits from there up, r what is left of them. -/
def RootInv (a x r : Nat) (k : Int) : Prop := x * x + r = a / 2 ^ (k + 2).toNat ∧ r ≤ 2 * x
/-- The two bits that come down, and the numbers of a round. -/
def twoBits (a j : Nat) : Nat := 2 * bitN a (j + 1) + bitN a j
theorem twoBits_lt (a j : Nat) : twoBits a j < 4 := by
  have := bitN_le a (j + 1); have := bitN_le a j; unfold twoBits; omega
theorem two_down (a j : Nat) : a / 2 ^ j = 4 * (a / 2 ^ (j + 2)) + twoBits a j := by
  unfold twoBits bitN
  have e1 : a / 2 ^ (j + 1) = a / 2 ^ j / 2 := by rw [Nat.pow_succ, Nat.div_div_eq_div_mul]
  have e2 : a / 2 ^ (j + 2) = a / 2 ^ j / 4 := by rw [Nat.pow_add, Nat.div_div_eq_div_mul]
  rw [e1, e2]; omega
theorem rootInv_start {a : Nat} (ha : U256 a) : RootInv a 0 0 254 := by
  unfold RootInv
  have : a / 2 ^ ((254 : Int) + 2).toNat = 0 := Nat.div_eq_of_lt ha
  rw [this]; exact ⟨rfl, Nat.le_refl _⟩
theorem root_bound {a x r : Nat} {j : Nat} (ha : U256 a) (h : RootInv a x r j) : x < 2 ^ 127 ∧ r < 2 ^ 128 := by
  obtain ⟨h1, h2⟩ := h
  have e : ((j : Int) + 2).toNat = j + 2 := by omega
  rw [e] at h1
  have hlt : a / 2 ^ (j + 2) < 2 ^ 254 := by
    rw [Nat.div_lt_iff_lt_mul (Nat.two_pow_pos _), ← Nat.pow_add]
    exact Nat.lt_of_lt_of_le ha.out (Nat.pow_le_pow_right (by decide) (by omega))
  have hx : x < 2 ^ 127 := by
    rcases Nat.lt_or_ge x (2 ^ 127) with h | h
    · exact h
    · have := Nat.mul_le_mul h h; omega
  exact ⟨hx, by omega⟩
theorem root_step {a x r : Nat} {j : Nat} (h : RootInv a x r j) :
    (r * 4 + twoBits a j < x * 4 + 1 → RootInv a (x * 2) (r * 4 + twoBits a j) ((j : Int) - 2)) ∧
    (¬ r * 4 + twoBits a j < x * 4 + 1 → RootInv a (x * 2 + 1) (r * 4 + twoBits a j - (x * 4 + 1)) ((j : Int) - 2)) := by
  obtain ⟨h1, h2⟩ := h
  have e : ((j : Int) + 2).toNat = j + 2 := by omega
  have e2 : ((j : Int) - 2 + 2).toNat = j := by omega
  rw [e] at h1
  unfold RootInv
  rw [e2, two_down a j, ← h1]
  have hb := twoBits_lt a j
  have p1 : x * 2 * (x * 2) = 4 * (x * x) := by rw [Nat.mul_assoc, Nat.mul_left_comm 2 x 2, Nat.mul_comm 2 2, ← Nat.mul_assoc, Nat.mul_comm]
  have p2 : (x * 2 + 1) * (x * 2 + 1) = 4 * (x * x) + 4 * x + 1 := by
    rw [Nat.add_mul, Nat.mul_add, p1]; omega
  rw [p1, p2]
  generalize x * x = s at *
  exact ⟨fun hc => ⟨by omega, by omega⟩, fun hc => ⟨by omega, by omega⟩⟩
theorem root_end {a x r : Nat} (h : RootInv a x r (-2)) : x * x + r = a ∧ r ≤ 2 * x := by
  obtain ⟨h1, h2⟩ := h
  exact ⟨by simpa using h1, h2⟩
theorem root_numbers {a x r j : Nat} (ha : U256 a) (h : RootInv a x r j) :
    shlN r 2 = r * 4 ∧ shlN x 2 = x * 4 ∧ shlN x 1 = x * 2 ∧ U256 r ∧ U256 x ∧ U256 (r * 4 + twoBits a j) ∧ U256 (x * 4 + 1) ∧ U256 (x * 2 + 1) := by
  obtain ⟨hx, hr⟩ := root_bound ha h
  have hb := twoBits_lt a j
  refine ⟨shlN_eq ?_, shlN_eq ?_, shlN_eq ?_, ?_, ?_, ?_, ?_, ?_⟩ <;> unfold U256 <;> omega
/-- The two bits, set into the lowest word. -/
theorem or_bits (a j : Nat) : bits .or .u64 (IntKind.u64.wrap ((bitN a (j + 1) : Int) * 2)) (bitN a j : Int) = (twoBits a j : Nat) := by
  have h1 := bitN_le a (j + 1)
  have h2 := bitN_le a j
  rw [show IntKind.u64.wrap ((bitN a (j + 1) : Int) * 2) = ((bitN a (j + 1) * 2 : Nat) : Int) from by rw [IntKind.wrap_u64]; omega]
  rw [u64_or_nat _ _ (by omega) (by omega), nat_join 1 _ _ (by omega) (by omega)]
  unfold twoBits; omega
end Go.Proofs.YtldmbneckcjonaaDoor
namespace Go.Proofs.YtldmbneckcjonaaDoor
open Go.RowKit
/-- What Root gives. -/
def RootOut (a : Nat) (w0 : World) (e : Ending) (w : World) : Prop := ∃ x r : Nat, e = .returned (.tuple #[.agg #[.int .u64 (wd 0 x), .int .u64 (wd 1 x)], .bool (decide (r ≠ 0))]) ∧ x * x + r = a ∧ r ≤ 2 * x ∧ Below w0.heap.size w0 w
attribute [local go_sem] eqW_run eqW0_run
set_option maxRecDepth 100000 in
set_option maxHeartbeats 8000000 in
theorem Root_any (a : Nat) (ha : U256 a) (w : World) :
    Calls Tryd.prog 157 #[W4 a] w (RootOut a w) := by
  go_enter Tryd.func157, Tryd.ntmps157
  go_wp2
  go_loopw [6, 7] (fun i _ wr => ∃ (k : Int) (x r : Nat), i = .int .i64 k ∧ -2 ≤ k ∧ k ≤ 254 ∧ k % 2 = 0 ∧ Hid (RootInv a x r k) ∧ Hid (C4 wr w.heap.size a) ∧ Hid (C4 wr (w.heap.size + 1 + 1) x) ∧ Hid (C4 wr (w.heap.size + 1 + 1 + 1) r) ∧
      Hid (wr.cell? ⟨w.heap.size + 1, 0, none⟩ = some (.int .u64 0) ∧ wr.cell? ⟨w.heap.size + 1, 1, none⟩ = some (.int .u64 0) ∧ wr.frozen? ⟨w.heap.size + 1, 0, none⟩ = false ∧ wr.frozen? ⟨w.heap.size + 1, 1, none⟩ = false) ∧ Below w.heap.size w wr ∧ w.heap.size + 1 + 1 + 1 < wr.heap.size) (fun i _ _ => (intOf i + 2).toNat)
  case atStart =>
    refine ⟨254, 0, 0, rfl, by omega, by omega, by omega, rootInv_start ha, ?_, ?_, ?_, ?_, ?_, by simp⟩
    · refine ⟨⟨?_, ?_, ?_, ?_⟩, ?_, ?_, ?_, ?_⟩ <;> go_simp
    · refine ⟨⟨?_, ?_, ?_, ?_⟩, ?_, ?_, ?_, ?_⟩ <;> (try rw [wd_zero]) <;> go_simp
    · refine ⟨⟨?_, ?_, ?_, ?_⟩, ?_, ?_, ?_, ?_⟩ <;> (try rw [wd_zero]) <;> go_simp
    · refine ⟨?_, ?_, ?_, ?_⟩ <;> go_simp
    · repeat' (first | with_reducible exact Below.refl _ _ | with_reducible assumption | with_reducible refine Below.drew ?_ | with_reducible refine bdrewN ?_ _ | with_reducible refine Below.alloc ?_ ?_ _ | with_reducible refine Below.setCell ?_ ?_ _ | with_reducible refine Below.trans ?_ (Below.mono (by assumption) ?_) | omega | (simp; done) | (simp; omega))
  case round =>
    obtain ⟨k, x, r, rfl, hk0, hk1, hk2, hI, hCa, hCx, hCr, hC2, hB, hz⟩ := hrel
    by_cases hk : 0 ≤ k
    · obtain ⟨j, rfl⟩ := Int.eq_ofNat_of_zero_le hk
      obtain ⟨e1, e2, e3, ur, ux, uR, uT, uX⟩ := root_numbers ha hI.out
      obtain ⟨st1, st2⟩ := root_step hI.out
      have hv := twoBits_lt a j
      have C1 := fun W => Shl_any r ur 2 (by omega) (by omega) W
      have C2 := fun W => Shl_any x ux 2 (by omega) (by omega) W
      have C3 := fun W => Shl_any x ux 1 (by omega) (by omega) W
      rw [show (2 : Int).toNat = 2 from rfl, e1] at C1
      rw [show (2 : Int).toNat = 2 from rfl, e2] at C2
      rw [show (1 : Int).toNat = 1 from rfl, e3] at C3
      have q0 := low_or (n := r * 4) (v := twoBits a j) (by omega) hv
      have q1 := low_1 (n := r * 4) (v := twoBits a j) (by omega) hv
      have q2 := low_2 (n := r * 4) (v := twoBits a j) (by omega) hv
      have q3 := low_3 (n := r * 4) (v := twoBits a j) (by omega) hv
      have t0 := low2_or (n := x * 4) (by omega)
      have t1 := (low2_1 (n := x * 4) (by omega)).symm
      have t2 := (low2_2 (n := x * 4) (by omega)).symm
      have t3 := (low2_3 (n := x * 4) (by omega)).symm
      have s0 := low2_or (n := x * 2) (by omega)
      have s1 := low2_1 (n := x * 2) (by omega)
      have s2 := low2_2 (n := x * 2) (by omega)
      have s3 := low2_3 (n := x * 2) (by omega)
      have hqq : bits .or .u64 (wd 0 (r * 4) : Nat) (bits .or .u64 (IntKind.u64.wrap ((bitN a (j + 1) : Int) * 2)) (bitN a j : Int)) = (wd 0 (r * 4 + twoBits a j) : Nat) := by rw [or_bits a j]; exact q0
      have hqq := Lib.hid hqq
      clear q0
      clear e1 e2 e3 hv
      have hj : (j : Int) ≤ 254 := hk1
      generalize r * 4 + twoBits a j = Rv at *
      generalize twoBits a j = v at *
      generalize r * 4 = R4 at *
      generalize x * 4 + 1 = T at *
      generalize x * 4 = X4 at *
      generalize x * 2 + 1 = X3 at *
      generalize x * 2 = X2 at *
      have tok1 : True := trivial
      have C1 := Lib.hid C1
      have C2 := Lib.hid C2
      have C3 := Lib.hid C3
      have st1 := Lib.hid st1
      have st2 := Lib.hid st2
      have s0 := Lib.hid s0
      have s1 := Lib.hid s1
      have s2 := Lib.hid s2
      have s3 := Lib.hid s3
      have gA := hCa.out
      have gX := hCx.out
      have gR := hCr.out
      clear hCa hCx hCr
      obtain ⟨⟨r0, r1, r2, r3⟩, fr0, fr1, fr2, fr3⟩ := id gR
      have gA := Lib.hid gA
      have gX := Lib.hid gX
      have gR := Lib.hid gR
      go_wp2_with fail
      refine (C1.out _).mono ?_
      rintro e w1 ⟨rfl, hb1⟩
      clear r0 r1 r2 r3 fr0 fr1 fr2 fr3
      have hz1 : w.heap.size + 1 + 1 + 1 < w1.heap.size := Nat.lt_of_lt_of_le hz hb1.size
      have gA1 := Lib.hid (gA.out.below hb1 (by omega))
      have gX1 := Lib.hid (gX.out.below hb1 (by omega))
      have gR1 := Lib.hid (gR.out.below hb1 (by omega))
      have hB1 : Below (w.heap.size + 1 + 1) wr w1 := hb1.mono (by omega)
      obtain ⟨⟨r0, r1, r2, r3⟩, fr0, fr1, fr2, fr3⟩ := id gR1.out
      go_upto_region 6 with (fail)
      clear r0 r1 r2 r3 fr0 fr1 fr2 fr3
      have gR2 := Lib.hid (gR1.out.put (.int .u64 (wd 0 R4)) (.int .u64 (wd 1 R4)) (.int .u64 (wd 2 R4)) (.int .u64 (wd 3 R4)))
      have gX2 : Hid (C4 ((((w1.setCell ⟨w.heap.size + 1 + 1 + 1, 0, none⟩ (.int .u64 (wd 0 R4))).setCell ⟨w.heap.size + 1 + 1 + 1, 1, none⟩ (.int .u64 (wd 1 R4))).setCell ⟨w.heap.size + 1 + 1 + 1, 2, none⟩ (.int .u64 (wd 2 R4))).setCell ⟨w.heap.size + 1 + 1 + 1, 3, none⟩ (.int .u64 (wd 3 R4))) (w.heap.size + 1 + 1) x) := (((gX1.out.far (by simp <;> omega) _).far (by simp <;> omega) _).far (by simp <;> omega) _).far (by simp <;> omega) _
      have gA2 : Hid (C4 ((((w1.setCell ⟨w.heap.size + 1 + 1 + 1, 0, none⟩ (.int .u64 (wd 0 R4))).setCell ⟨w.heap.size + 1 + 1 + 1, 1, none⟩ (.int .u64 (wd 1 R4))).setCell ⟨w.heap.size + 1 + 1 + 1, 2, none⟩ (.int .u64 (wd 2 R4))).setCell ⟨w.heap.size + 1 + 1 + 1, 3, none⟩ (.int .u64 (wd 3 R4))) w.heap.size a) := (((gA1.out.far (by simp <;> omega) _).far (by simp <;> omega) _).far (by simp <;> omega) _).far (by simp <;> omega) _
      have hB2 : Below (w.heap.size + 1 + 1) wr ((((w1.setCell ⟨w.heap.size + 1 + 1 + 1, 0, none⟩ (.int .u64 (wd 0 R4))).setCell ⟨w.heap.size + 1 + 1 + 1, 1, none⟩ (.int .u64 (wd 1 R4))).setCell ⟨w.heap.size + 1 + 1 + 1, 2, none⟩ (.int .u64 (wd 2 R4))).setCell ⟨w.heap.size + 1 + 1 + 1, 3, none⟩ (.int .u64 (wd 3 R4))) := by
        repeat (first | exact Below.refl _ _ | assumption | refine Below.drew ?_ | refine Below.alloc ?_ (by first | omega | (simp; done) | (simp; omega)) _ | refine Below.setCell ?_ (by first | omega | (simp; done) | (simp; omega)) _ | refine Below.trans ?_ (Below.mono (by assumption) (by first | omega | (simp; done) | (simp; omega))))
      have hz2 : w.heap.size + 1 + 1 + 1 < ((((w1.setCell ⟨w.heap.size + 1 + 1 + 1, 0, none⟩ (.int .u64 (wd 0 R4))).setCell ⟨w.heap.size + 1 + 1 + 1, 1, none⟩ (.int .u64 (wd 1 R4))).setCell ⟨w.heap.size + 1 + 1 + 1, 2, none⟩ (.int .u64 (wd 2 R4))).setCell ⟨w.heap.size + 1 + 1 + 1, 3, none⟩ (.int .u64 (wd 3 R4))).heap.size := by simpa using hz1
      generalize ((((w1.setCell ⟨w.heap.size + 1 + 1 + 1, 0, none⟩ (.int .u64 (wd 0 R4))).setCell ⟨w.heap.size + 1 + 1 + 1, 1, none⟩ (.int .u64 (wd 1 R4))).setCell ⟨w.heap.size + 1 + 1 + 1, 2, none⟩ (.int .u64 (wd 2 R4))).setCell ⟨w.heap.size + 1 + 1 + 1, 3, none⟩ (.int .u64 (wd 3 R4))) = W1 at gR2 gX2 gA2 hB2 hz2 ⊢
      clear gA1 gX1 gR1 hB1 hb1 hz1 gX gR
      go_cut [14] (fun _ wx => Hid (C4 wx (w.heap.size + 1 + 1) x) ∧ Hid (K4 wx (w.heap.size + 1 + 1 + 1) (.int .u64 (wd 0 Rv)) (.int .u64 (wd 1 R4)) (.int .u64 (wd 2 R4)) (.int .u64 (wd 3 R4))) ∧ Below (w.heap.size + 1 + 1) wr wx ∧ w.heap.size + 1 + 1 + 1 < wx.heap.size)
      case first =>
        clear C1 C2 C3 st1 st2 s0 s1 s2 s3 t0 t1 t2 t3 q1 q2 q3 hI hC2
        have hjw : IntKind.i64.wrap ((j : Int) + 1) = (j : Int) + 1 := by rw [IntKind.wrap_i64]; omega
        obtain ⟨⟨r0, r1, r2, r3⟩, fr0, fr1, fr2, fr3⟩ := id gR2.out
        obtain ⟨⟨a0, a1, a2, a3⟩, _⟩ := id gA2.out
        go_region_with (first
          | (go_at_call 165; have _t := tok1; clear tok1 _t; refine (Bit_any a _ (by omega) (by omega) _).mono ?_; rintro e w2 ⟨rfl, hb2⟩; have hz3 : w.heap.size + 1 + 1 + 1 < w2.heap.size := (Nat.lt_of_lt_of_le (by first | exact hz2 | (simp; exact hz2)) hb2.size); have gA3 : Hid (C4 w2 w.heap.size a) := (by first | exact K4.below gA2.out hb2 (by first | omega | (simp; omega)) | exact K4.below (K4.drew gA2.out) hb2 (by first | omega | (simp; omega))); have gX3 : Hid (C4 w2 (w.heap.size + 1 + 1) x) := (by first | exact K4.below gX2.out hb2 (by first | omega | (simp; omega)) | exact K4.below (K4.drew gX2.out) hb2 (by first | omega | (simp; omega))); have gR3 : Hid (C4 w2 (w.heap.size + 1 + 1 + 1) R4) := (by first | exact K4.below gR2.out hb2 (by first | omega | (simp; omega)) | exact K4.below (K4.drew gR2.out) hb2 (by first | omega | (simp; omega))); obtain ⟨⟨r0', r1', r2', r3'⟩, fr0', fr1', fr2', fr3'⟩ := id gR3.out; obtain ⟨⟨a0', a1', a2', a3'⟩, _⟩ := id gA3.out)
          | (go_at_call 165; refine (Bit_any a _ (by omega) (by omega) _).mono ?_; rintro e w3 ⟨rfl, hb3⟩; have hz4 : w.heap.size + 1 + 1 + 1 < w3.heap.size := (Nat.lt_of_lt_of_le (by first | exact hz3 | (simp; exact hz3)) hb3.size); have gX4 : Hid (C4 w3 (w.heap.size + 1 + 1) x) := (by first | exact K4.below gX3.out hb3 (by first | omega | (simp; omega)) | exact K4.below (K4.drew gX3.out) hb3 (by first | omega | (simp; omega))); have gR4 : Hid (C4 w3 (w.heap.size + 1 + 1 + 1) R4) := (by first | exact K4.below gR3.out hb3 (by first | omega | (simp; omega)) | exact K4.below (K4.drew gR3.out) hb3 (by first | omega | (simp; omega))); obtain ⟨⟨r0'', r1'', r2'', r3''⟩, fr0'', fr1'', fr2'', fr3''⟩ := id gR4.out))
        all_goals go_wp2_with fail
        all_goals
          go_meet
          refine ⟨gX4.out.far (by simp <;> omega) _, by first | exact gR4.out.set0 _ | (rw [hqq.out]; exact gR4.out.set0 _), ?_, by simpa using hz4⟩
          repeat (first | exact Below.refl _ _ | assumption | refine Below.drew ?_ | refine Below.alloc ?_ (by first | omega | (simp; done) | (simp; omega)) _ | refine Below.setCell ?_ (by first | omega | (simp; done) | (simp; omega)) _ | refine Below.trans ?_ (Below.mono (by assumption) (by first | omega | (simp; done) | (simp; omega))))
      case rest =>
        obtain ⟨gx, gr, hB3, hz3⟩ := hcut
        clear hqq tok1 C1 gR2 gX2 gA2 hB2 hz2
        have gr : Hid (C4 wc (w.heap.size + 1 + 1 + 1) Rv) := by have := gr.out; rwa [← q1, ← q2, ← q3] at this
        clear q1 q2 q3
        obtain ⟨⟨x0, x1, x2, x3⟩, fx0, fx1, fx2, fx3⟩ := id gx.out
        go_wp2_with fail
        refine (C2.out _).mono ?_
        rintro e w4 ⟨rfl, hb4⟩
        clear x0 x1 x2 x3 fx0 fx1 fx2 fx3 C2
        have hz4 : w.heap.size + 1 + 1 + 1 < w4.heap.size := Nat.lt_of_lt_of_le hz3 hb4.size
        have gx4 := gx.out.below hb4 (by omega)
        have gr4 := Lib.hid (gr.out.below hb4 (by omega))
        have hB4 : Below (w.heap.size + 1 + 1) wr w4 := hB3.trans (hb4.mono (by omega))
        clear gx gr hB3 hb4 hz3
        obtain ⟨⟨x0, x1, x2, x3⟩, fx0, fx1, fx2, fx3⟩ := id gx4
        have gx4 := Lib.hid gx4
        have hz4x : w.heap.size + 1 + 1 < w4.heap.size := by omega
        go_wp2_with fail
        refine (C3.out _).mono ?_
        rintro e w5 ⟨rfl, hb5⟩
        clear x0 x1 x2 x3 fx0 fx1 fx2 fx3 C3
        have hsz : (w4.alloc (.cells #[.int .u64 (wd 0 T), .int .u64 (wd 1 T), .int .u64 (wd 2 T), .int .u64 (wd 3 T)] 180)).heap.size = w4.heap.size + 1 := by simp
        have gt5 := (K4.new w4 180 (.int .u64 (wd 0 T)) (.int .u64 (wd 1 T)) (.int .u64 (wd 2 T)) (.int .u64 (wd 3 T))).below hb5 (by rw [hsz]; omega)
        have gx5 := (gx4.out.alloc hz4x _).below hb5 (by rw [hsz]; omega)
        have gr5 := (gr4.out.alloc hz4 _).below hb5 (by rw [hsz]; omega)
        have hz5 : w4.heap.size < w5.heap.size := by have := hb5.size; rw [hsz] at this; omega
        have hB5 : Below (w.heap.size + 1 + 1) wr w5 := by
          repeat (first | exact Below.refl _ _ | assumption | refine Below.drew ?_ | refine Below.alloc ?_ (by first | omega | (simp; done) | (simp; omega)) _ | refine Below.setCell ?_ (by first | omega | (simp; done) | (simp; omega)) _ | refine Below.trans ?_ (Below.mono (by assumption) (by first | omega | (simp; done) | (simp; omega))))
        clear gx4 gr4 hB4 hb5 hsz
        obtain ⟨⟨x0, x1, x2, x3⟩, fx0, fx1, fx2, fx3⟩ := id gx5
        have gt5 := Lib.hid gt5
        have gr5 := Lib.hid gr5
        have gx5 := Lib.hid gx5
        go_upto_region 10 with (fail)
        clear x0 x1 x2 x3 fx0 fx1 fx2 fx3
        have gx6 := Lib.hid (gx5.out.put (.int .u64 (wd 0 X2)) (.int .u64 (wd 1 X2)) (.int .u64 (wd 2 X2)) (.int .u64 (wd 3 X2)))
        have gr6 : Hid (C4 ((((w5.setCell ⟨w.heap.size + 1 + 1, 0, none⟩ (.int .u64 (wd 0 X2))).setCell ⟨w.heap.size + 1 + 1, 1, none⟩ (.int .u64 (wd 1 X2))).setCell ⟨w.heap.size + 1 + 1, 2, none⟩ (.int .u64 (wd 2 X2))).setCell ⟨w.heap.size + 1 + 1, 3, none⟩ (.int .u64 (wd 3 X2))) (w.heap.size + 1 + 1 + 1) Rv) := (((gr5.out.far (by simp <;> omega) _).far (by simp <;> omega) _).far (by simp <;> omega) _).far (by simp <;> omega) _
        have gt6 : Hid (C4 ((((w5.setCell ⟨w.heap.size + 1 + 1, 0, none⟩ (.int .u64 (wd 0 X2))).setCell ⟨w.heap.size + 1 + 1, 1, none⟩ (.int .u64 (wd 1 X2))).setCell ⟨w.heap.size + 1 + 1, 2, none⟩ (.int .u64 (wd 2 X2))).setCell ⟨w.heap.size + 1 + 1, 3, none⟩ (.int .u64 (wd 3 X2))) w4.heap.size T) := (((gt5.out.far (by simp <;> omega) _).far (by simp <;> omega) _).far (by simp <;> omega) _).far (by simp <;> omega) _
        have hB6 : Below (w.heap.size + 1 + 1) wr ((((w5.setCell ⟨w.heap.size + 1 + 1, 0, none⟩ (.int .u64 (wd 0 X2))).setCell ⟨w.heap.size + 1 + 1, 1, none⟩ (.int .u64 (wd 1 X2))).setCell ⟨w.heap.size + 1 + 1, 2, none⟩ (.int .u64 (wd 2 X2))).setCell ⟨w.heap.size + 1 + 1, 3, none⟩ (.int .u64 (wd 3 X2))) := by
          repeat (first | exact Below.refl _ _ | assumption | refine Below.drew ?_ | refine Below.alloc ?_ (by first | omega | (simp; done) | (simp; omega)) _ | refine Below.setCell ?_ (by first | omega | (simp; done) | (simp; omega)) _ | refine Below.trans ?_ (Below.mono (by assumption) (by first | omega | (simp; done) | (simp; omega))))
        have hz6 : w4.heap.size < ((((w5.setCell ⟨w.heap.size + 1 + 1, 0, none⟩ (.int .u64 (wd 0 X2))).setCell ⟨w.heap.size + 1 + 1, 1, none⟩ (.int .u64 (wd 1 X2))).setCell ⟨w.heap.size + 1 + 1, 2, none⟩ (.int .u64 (wd 2 X2))).setCell ⟨w.heap.size + 1 + 1, 3, none⟩ (.int .u64 (wd 3 X2))).heap.size := by simpa using hz5
        generalize ((((w5.setCell ⟨w.heap.size + 1 + 1, 0, none⟩ (.int .u64 (wd 0 X2))).setCell ⟨w.heap.size + 1 + 1, 1, none⟩ (.int .u64 (wd 1 X2))).setCell ⟨w.heap.size + 1 + 1, 2, none⟩ (.int .u64 (wd 2 X2))).setCell ⟨w.heap.size + 1 + 1, 3, none⟩ (.int .u64 (wd 3 X2))) = W6 at gr6 gx6 gt6 hB6 hz6 ⊢
        clear gx5 gr5 gt5 hB5 hz5
        obtain ⟨⟨t0, t1, t2, t3⟩, _⟩ := id gt6.out
        obtain ⟨⟨r0, r1, r2, r3⟩, _⟩ := id gr6.out
        by_cases hc : Rv < T
        · go_wp2_with fail
          refine (Less_any _ _ uR uT _).mono ?_
          rintro e w7 ⟨rfl, hb7⟩
          clear t0 t1 t2 t3 r0 r1 r2 r3
          have gx7 := gx6.out.below hb7 (by omega)
          have gr7 := gr6.out.below hb7 (by omega)
          have hB7 : Below (w.heap.size + 1 + 1) wr w7 := hB6.trans (hb7.mono (by omega))
          clear gx6 gr6 gt6 hB6 hb7
          have gx7 := Lib.hid gx7
          have gr7 := Lib.hid gr7
          go_wp2
          go_roundw
          case rel => exact ⟨(j : Int) - 2, X2, Rv, rfl, by omega, by omega, by omega, st1.out hc, K4.below gA.out hB7 (by omega), gx7, gr7, ⟨(hB7.cell (p := ⟨w.heap.size + 1, 0, none⟩) (by show w.heap.size + 1 < w.heap.size + 1 + 1; omega)).trans hC2.out.1, (hB7.cell (p := ⟨w.heap.size + 1, 1, none⟩) (by show w.heap.size + 1 < w.heap.size + 1 + 1; omega)).trans hC2.out.2.1, (hB7.frozen (p := ⟨w.heap.size + 1, 0, none⟩) (by show w.heap.size + 1 < w.heap.size + 1 + 1; omega)).trans hC2.out.2.2.1, (hB7.frozen (p := ⟨w.heap.size + 1, 1, none⟩) (by show w.heap.size + 1 < w.heap.size + 1 + 1; omega)).trans hC2.out.2.2.2⟩, hB.trans (hB7.mono (by omega)), Nat.lt_of_lt_of_le hz (hB7).size⟩
          case measure => simp only [intOf]; omega
        · go_wp2_with fail
          refine (Less_any _ _ uR uT _).mono ?_
          rintro e w7 ⟨rfl, hb7⟩
          clear t0 t1 t2 t3 r0 r1 r2 r3
          have hz7 : w4.heap.size < w7.heap.size := Nat.lt_of_lt_of_le hz6 hb7.size
          have gx7 := gx6.out.below hb7 (by omega)
          have gr7 := gr6.out.below hb7 (by omega)
          have gt7 := gt6.out.below hb7 (by omega)
          have hB7 : Below (w.heap.size + 1 + 1) wr w7 := hB6.trans (hb7.mono (by omega))
          clear gx6 gr6 gt6 hB6 hb7 hz6
          obtain ⟨⟨t0, t1, t2, t3⟩, _⟩ := id gt7
          obtain ⟨⟨r0, r1, r2, r3⟩, fr0, fr1, fr2, fr3⟩ := id gr7
          have gx7 := Lib.hid gx7
          have gr7 := Lib.hid gr7
          clear gt7
          go_wp2_with fail
          refine (Sub_any _ _ uR uT _).mono ?_
          rintro e w8 ⟨rfl, hb8⟩
          clear t0 t1 t2 t3 r0 r1 r2 r3 fr0 fr1 fr2 fr3
          have gx8 := gx7.out.below hb8 (by omega)
          have gr8 := gr7.out.below hb8 (by omega)
          have hB8 : Below (w.heap.size + 1 + 1) wr w8 := hB7.trans (hb8.mono (by omega))
          have hz8 : w4.heap.size < w8.heap.size := Nat.lt_of_lt_of_le hz7 hb8.size
          clear gx7 gr7 hB7 hb8 hz7
          have hsub : subN Rv T = Rv - T := subN_le uR (by omega)
          rw [hsub]
          generalize hRT : Rv - T = D at *
          clear hsub
          obtain ⟨⟨x0, x1, x2, x3⟩, fx0, fx1, fx2, fx3⟩ := id gx8
          obtain ⟨⟨r0, r1, r2, r3⟩, fr0, fr1, fr2, fr3⟩ := id gr8
          have gx8 := Lib.hid gx8
          have gr8 := Lib.hid gr8
          have s0 := s0.out
          go_wp2
          clear x0 x1 x2 x3 fx0 fx1 fx2 fx3 r0 r1 r2 r3 fr0 fr1 fr2 fr3
          have gx9 : C4 (((((w8.setCell ⟨w.heap.size + 1 + 1 + 1, 0, none⟩ (.int .u64 (wd 0 D))).setCell ⟨w.heap.size + 1 + 1 + 1, 1, none⟩ (.int .u64 (wd 1 D))).setCell ⟨w.heap.size + 1 + 1 + 1, 2, none⟩ (.int .u64 (wd 2 D))).setCell ⟨w.heap.size + 1 + 1 + 1, 3, none⟩ (.int .u64 (wd 3 D))).setCell ⟨w.heap.size + 1 + 1, 0, none⟩ (.int .u64 (wd 0 X3))) (w.heap.size + 1 + 1) X3 := by
            have := K4.set0 ((((gx8.out.far (by simp <;> omega) _).far (by simp <;> omega) _).far (by simp <;> omega) _).far (by simp <;> omega) _ : C4 ((((w8.setCell ⟨w.heap.size + 1 + 1 + 1, 0, none⟩ (.int .u64 (wd 0 D))).setCell ⟨w.heap.size + 1 + 1 + 1, 1, none⟩ (.int .u64 (wd 1 D))).setCell ⟨w.heap.size + 1 + 1 + 1, 2, none⟩ (.int .u64 (wd 2 D))).setCell ⟨w.heap.size + 1 + 1 + 1, 3, none⟩ (.int .u64 (wd 3 D))) (w.heap.size + 1 + 1) X2) (.int .u64 (wd 0 X3))
            rwa [← s1.out, ← s2.out, ← s3.out] at this
          have gr9 : C4 (((((w8.setCell ⟨w.heap.size + 1 + 1 + 1, 0, none⟩ (.int .u64 (wd 0 D))).setCell ⟨w.heap.size + 1 + 1 + 1, 1, none⟩ (.int .u64 (wd 1 D))).setCell ⟨w.heap.size + 1 + 1 + 1, 2, none⟩ (.int .u64 (wd 2 D))).setCell ⟨w.heap.size + 1 + 1 + 1, 3, none⟩ (.int .u64 (wd 3 D))).setCell ⟨w.heap.size + 1 + 1, 0, none⟩ (.int .u64 (wd 0 X3))) (w.heap.size + 1 + 1 + 1) D := (gr8.out.put (.int .u64 (wd 0 D)) (.int .u64 (wd 1 D)) (.int .u64 (wd 2 D)) (.int .u64 (wd 3 D))).far (by simp <;> omega) _
          have hB9 : Below (w.heap.size + 1 + 1) wr (((((w8.setCell ⟨w.heap.size + 1 + 1 + 1, 0, none⟩ (.int .u64 (wd 0 D))).setCell ⟨w.heap.size + 1 + 1 + 1, 1, none⟩ (.int .u64 (wd 1 D))).setCell ⟨w.heap.size + 1 + 1 + 1, 2, none⟩ (.int .u64 (wd 2 D))).setCell ⟨w.heap.size + 1 + 1 + 1, 3, none⟩ (.int .u64 (wd 3 D))).setCell ⟨w.heap.size + 1 + 1, 0, none⟩ (.int .u64 (wd 0 X3))) := by
            repeat (first | exact Below.refl _ _ | assumption | refine Below.drew ?_ | refine Below.alloc ?_ (by first | omega | (simp; done) | (simp; omega)) _ | refine Below.setCell ?_ (by first | omega | (simp; done) | (simp; omega)) _ | refine Below.trans ?_ (Below.mono (by assumption) (by first | omega | (simp; done) | (simp; omega))))
          have gx9 := Lib.hid gx9
          have gr9 := Lib.hid gr9
          have st2 := st2.out hc
          go_roundw
          case rel => exact ⟨(j : Int) - 2, X3, D, rfl, by omega, by omega, by omega, st2, K4.below gA.out hB9 (by omega), gx9, gr9, ⟨(hB9.cell (p := ⟨w.heap.size + 1, 0, none⟩) (by show w.heap.size + 1 < w.heap.size + 1 + 1; omega)).trans hC2.out.1, (hB9.cell (p := ⟨w.heap.size + 1, 1, none⟩) (by show w.heap.size + 1 < w.heap.size + 1 + 1; omega)).trans hC2.out.2.1, (hB9.frozen (p := ⟨w.heap.size + 1, 0, none⟩) (by show w.heap.size + 1 < w.heap.size + 1 + 1; omega)).trans hC2.out.2.2.1, (hB9.frozen (p := ⟨w.heap.size + 1, 1, none⟩) (by show w.heap.size + 1 < w.heap.size + 1 + 1; omega)).trans hC2.out.2.2.2⟩, hB.trans (hB9.mono (by omega)), Nat.lt_of_lt_of_le hz (hB9).size⟩
          case measure => simp only [intOf]; omega
    · obtain rfl : k = -2 := by omega
      obtain ⟨he1, he2⟩ := root_end hI.out
      have he1 := Lib.hid he1
      obtain ⟨hr0, hr1, hr2, hr3⟩ := hC2.out
      obtain ⟨⟨x0, x1, x2, x3⟩, _⟩ := id hCx.out
      obtain ⟨⟨r0, r1, r2, r3⟩, _⟩ := id hCr.out
      have ur : U256 r := by have := ha.out; have := he1.out; unfold U256; omega
      clear hI hC2 hCa hCx hCr
      go_wp2
      go_region
      go_wp2
      refine bodyPost_ret (v := .tuple #[.agg #[.int .u64 (wd 0 x), .int .u64 (wd 1 x)], .bool (!decide (r = 0))]) (by simp [results, Tryd.results157, go_sem, *]) rfl ⟨x, r, ?_, he1.out, he2, ?_⟩
      · rw [show (!decide (r = 0)) = decide (r ≠ 0) from by by_cases h : r = 0 <;> simp [h]]
      · repeat' (first | with_reducible exact Below.refl _ _ | with_reducible assumption | with_reducible refine Below.drew ?_ | with_reducible refine bdrewN ?_ _ | with_reducible refine Below.alloc ?_ ?_ _ | with_reducible refine Below.setCell ?_ ?_ _ | with_reducible refine Below.trans ?_ (Below.mono (by assumption) ?_) | omega | (simp; done) | (simp; omega))
end Go.Proofs.YtldmbneckcjonaaDoor
