/- Several texts in one: soft.div. · soft.div, whole. -/
import Derived.Test.YtldmbneckcjonabDoorGC
import Derived.Test.YtldmbneckcjonabDoorGD
import Derived.Test.YtldmbneckcjonabDoorGN
import Derived.Test.YtldmbneckcjonabDoorGP
import Derived.Test.YtldmbneckcjonabDoorGA
import Derived.Test.YtldmbneckcjonabDoorGM
import Derived.Test.YtldmbneckcjonabDoorGB
set_option linter.unusedVariables false
set_option linter.unusedSimpArgs false
namespace Go.Proofs.YtldmbneckcjonabDoor
open Go.RowKit
theorem NB.zeroD {W : World} : NB (W.alloc (.cells #[.bool false, .int .i64 0, .int .u64 0, .int .u64 0, .int .u64 0, .int .u64 0, .bool false] 77)) W.heap.size false 0 0 false := by
  have := NB.new (W := W) (n := false) (e := 0) (s := 0) (l := false)
  have e : NO false 0 0 false = .cells #[.bool false, .int .i64 0, .int .u64 0, .int .u64 0, .int .u64 0, .int .u64 0, .bool false] 77 := by simp only [NO, wd_zero]; rfl
  rw [e] at this
  exact this
theorem K4.lt {W : World} {b : Nat} {c0 c1 c2 c3 : Value} (h : K4 W b c0 c1 c2 c3) : b < W.heap.size := World.block_lt_of_cell? _ _ h.1.1
theorem K4.call {W W1 : World} {b : Nat} {c0 c1 c2 c3 : Value} (h : K4 W b c0 c1 c2 c3) (hb : Below W.heap.size W W1) : K4 W1 b c0 c1 c2 c3 := h.below hb h.lt
theorem RB.stepB {w W W1 : World} {m a b c : Nat} (h : RB w m a b c W) (hb : Below (w.heap.size + 2) W W1) : RB w m a b c W1 := by
  obtain ⟨⟨a1, a2, a3, a4⟩, ⟨b0, b1, b2⟩, ⟨c0, c1, c2⟩, hz, hB⟩ := h
  have k : ∀ (g i : Nat) (v : Value), g < w.heap.size + 2 → W.cell? ⟨g, i, none⟩ = some v → W1.cell? ⟨g, i, none⟩ = some v := fun g i v hg hc => by rw [hb.cell (p := ⟨g, i, none⟩) hg]; exact hc
  have f : ∀ (g i : Nat), g < w.heap.size + 2 → W.frozen? ⟨g, i, none⟩ = false → W1.frozen? ⟨g, i, none⟩ = false := fun g i hg hc => by rw [hb.frozen (p := ⟨g, i, none⟩) hg]; exact hc
  exact ⟨⟨k _ _ _ (by omega) a1, k _ _ _ (by omega) a2, k _ _ _ (by omega) a3, k _ _ _ (by omega) a4⟩, ⟨k _ _ _ (by omega) b0, k _ _ _ (by omega) b1, k _ _ _ (by omega) b2⟩, ⟨f _ _ (by omega) c0, f _ _ (by omega) c1, f _ _ (by omega) c2⟩, Nat.le_trans hz hb.size, hB.trans (hb.mono (by omega))⟩
theorem bput7D {B g : Nat} {a W : World} (h : Below B a W) (hg : B ≤ g) (v0 v1 v2 v3 v4 v5 v6 : Value) : Below B a (((((((W.setCell ⟨g, 0, none⟩ v0).setCell ⟨g, 1, none⟩ v1).setCell ⟨g, 2, none⟩ v2).setCell ⟨g, 3, none⟩ v3).setCell ⟨g, 4, none⟩ v4).setCell ⟨g, 5, none⟩ v5).setCell ⟨g, 6, none⟩ v6) :=
  ((((((h.setCell (p := ⟨g, _, none⟩) hg v0).setCell (p := ⟨g, _, none⟩) hg v1).setCell (p := ⟨g, _, none⟩) hg v2).setCell (p := ⟨g, _, none⟩) hg v3).setCell (p := ⟨g, _, none⟩) hg v4).setCell (p := ⟨g, _, none⟩) hg v5).setCell (p := ⟨g, _, none⟩) hg v6
theorem RB.put7 {w W : World} {m a b c g : Nat} (h : RB w m a b c W) (hg : w.heap.size + 2 ≤ g) (v0 v1 v2 v3 v4 v5 v6 : Value) : RB w m a b c (((((((W.setCell ⟨g, 0, none⟩ v0).setCell ⟨g, 1, none⟩ v1).setCell ⟨g, 2, none⟩ v2).setCell ⟨g, 3, none⟩ v3).setCell ⟨g, 4, none⟩ v4).setCell ⟨g, 5, none⟩ v5).setCell ⟨g, 6, none⟩ v6) :=
  h.stepB (bput7D (Below.refl _ _) hg _ _ _ _ _ _ _)
theorem NB.put4 {W : World} {g b : Nat} {n : Bool} {e : Int} {s : Nat} {l : Bool} (h : NB W g n e s l) (hb : b ≠ g) (v0 v1 v2 v3 : Value) : NB ((((W.setCell ⟨b, 0, none⟩ v0).setCell ⟨b, 1, none⟩ v1).setCell ⟨b, 2, none⟩ v2).setCell ⟨b, 3, none⟩ v3) g n e s l := (((h.far (p := ⟨b, 0, none⟩) hb v0).far (p := ⟨b, 1, none⟩) hb v1).far (p := ⟨b, 2, none⟩) hb v2).far (p := ⟨b, 3, none⟩) hb v3
theorem NB.zeroAt {W : World} {g : Nat} (h : W.heap.size = g) : NB (W.alloc (.cells #[.bool false, .int .i64 0, .int .u64 0, .int .u64 0, .int .u64 0, .int .u64 0, .bool false] 77)) g false 0 0 false := h ▸ NB.zeroD
theorem NB.newAt {W : World} {g : Nat} {n : Bool} {e : Int} {s : Nat} {l : Bool} (h : W.heap.size = g) : NB (W.alloc (.cells #[.bool n, .int .i64 e, .int .u64 (wd 0 s), .int .u64 (wd 1 s), .int .u64 (wd 2 s), .int .u64 (wd 3 s), .bool l] 77)) g n e s l := h ▸ NB.new
theorem NB.far7 {W : World} {g b : Nat} {n : Bool} {e : Int} {s : Nat} {l : Bool} (h : NB W g n e s l) (hb : b ≠ g) (v0 v1 v2 v3 v4 v5 v6 : Value) : NB (((((((W.setCell ⟨b, 0, none⟩ v0).setCell ⟨b, 1, none⟩ v1).setCell ⟨b, 2, none⟩ v2).setCell ⟨b, 3, none⟩ v3).setCell ⟨b, 4, none⟩ v4).setCell ⟨b, 5, none⟩ v5).setCell ⟨b, 6, none⟩ v6) g n e s l := ((((((h.far (p := ⟨b, 0, none⟩) hb v0).far (p := ⟨b, 1, none⟩) hb v1).far (p := ⟨b, 2, none⟩) hb v2).far (p := ⟨b, 3, none⟩) hb v3).far (p := ⟨b, 4, none⟩) hb v4).far (p := ⟨b, 5, none⟩) hb v5).far (p := ⟨b, 6, none⟩) hb v6
theorem NB.put7 {W : World} {g : Nat} {n n' : Bool} {e e' : Int} {s s' : Nat} {l l' : Bool} (h : NB W g n e s l) : NB (((((((W.setCell ⟨g, 0, none⟩ (.bool n')).setCell ⟨g, 1, none⟩ (.int .i64 e')).setCell ⟨g, 2, none⟩ (.int .u64 (wd 0 s'))).setCell ⟨g, 3, none⟩ (.int .u64 (wd 1 s'))).setCell ⟨g, 4, none⟩ (.int .u64 (wd 2 s'))).setCell ⟨g, 5, none⟩ (.int .u64 (wd 3 s'))).setCell ⟨g, 6, none⟩ (.bool l')) g n' e' s' l' := by
  obtain ⟨⟨c0, c1, c2, c3, c4, c5, c6⟩, f0, f1, f2, f3, f4, f5, f6⟩ := h
  refine ⟨⟨?_, ?_, ?_, ?_, ?_, ?_, ?_⟩, ?_, ?_, ?_, ?_, ?_, ?_, ?_⟩ <;> (go_simp; done)
theorem two_put4 {W : World} {g5 g6 b : Nat} {na nb : Bool} {ea eb : Int} {sa sb : Nat} (h5 : NB W g5 na ea sa false) (h6 : NB W g6 nb eb sb false) (hb5 : b ≠ g5) (hb6 : b ≠ g6) (v0 v1 v2 v3 : Value) : (((((W.setCell ⟨b, 0, none⟩ v0).setCell ⟨b, 1, none⟩ v1).setCell ⟨b, 2, none⟩ v2).setCell ⟨b, 3, none⟩ v3).cell? ⟨g5, 0, none⟩ = some (Value.bool (na)) ∧ ((((W.setCell ⟨b, 0, none⟩ v0).setCell ⟨b, 1, none⟩ v1).setCell ⟨b, 2, none⟩ v2).setCell ⟨b, 3, none⟩ v3).cell? ⟨g5, 1, none⟩ = some (Value.int .i64 (ea)) ∧ ((((W.setCell ⟨b, 0, none⟩ v0).setCell ⟨b, 1, none⟩ v1).setCell ⟨b, 2, none⟩ v2).setCell ⟨b, 3, none⟩ v3).cell? ⟨g5, 2, none⟩ = some (Value.int .u64 (wd 0 (sa))) ∧ ((((W.setCell ⟨b, 0, none⟩ v0).setCell ⟨b, 1, none⟩ v1).setCell ⟨b, 2, none⟩ v2).setCell ⟨b, 3, none⟩ v3).cell? ⟨g5, 3, none⟩ = some (Value.int .u64 (wd 1 (sa))) ∧ ((((W.setCell ⟨b, 0, none⟩ v0).setCell ⟨b, 1, none⟩ v1).setCell ⟨b, 2, none⟩ v2).setCell ⟨b, 3, none⟩ v3).cell? ⟨g5, 4, none⟩ = some (Value.int .u64 (wd 2 (sa))) ∧ ((((W.setCell ⟨b, 0, none⟩ v0).setCell ⟨b, 1, none⟩ v1).setCell ⟨b, 2, none⟩ v2).setCell ⟨b, 3, none⟩ v3).cell? ⟨g5, 5, none⟩ = some (Value.int .u64 (wd 3 (sa))) ∧ ((((W.setCell ⟨b, 0, none⟩ v0).setCell ⟨b, 1, none⟩ v1).setCell ⟨b, 2, none⟩ v2).setCell ⟨b, 3, none⟩ v3).cell? ⟨g5, 6, none⟩ = some (Value.bool (false))) ∧ (((((W.setCell ⟨b, 0, none⟩ v0).setCell ⟨b, 1, none⟩ v1).setCell ⟨b, 2, none⟩ v2).setCell ⟨b, 3, none⟩ v3).cell? ⟨g6, 0, none⟩ = some (Value.bool (nb)) ∧ ((((W.setCell ⟨b, 0, none⟩ v0).setCell ⟨b, 1, none⟩ v1).setCell ⟨b, 2, none⟩ v2).setCell ⟨b, 3, none⟩ v3).cell? ⟨g6, 1, none⟩ = some (Value.int .i64 (eb)) ∧ ((((W.setCell ⟨b, 0, none⟩ v0).setCell ⟨b, 1, none⟩ v1).setCell ⟨b, 2, none⟩ v2).setCell ⟨b, 3, none⟩ v3).cell? ⟨g6, 2, none⟩ = some (Value.int .u64 (wd 0 (sb))) ∧ ((((W.setCell ⟨b, 0, none⟩ v0).setCell ⟨b, 1, none⟩ v1).setCell ⟨b, 2, none⟩ v2).setCell ⟨b, 3, none⟩ v3).cell? ⟨g6, 3, none⟩ = some (Value.int .u64 (wd 1 (sb))) ∧ ((((W.setCell ⟨b, 0, none⟩ v0).setCell ⟨b, 1, none⟩ v1).setCell ⟨b, 2, none⟩ v2).setCell ⟨b, 3, none⟩ v3).cell? ⟨g6, 4, none⟩ = some (Value.int .u64 (wd 2 (sb))) ∧ ((((W.setCell ⟨b, 0, none⟩ v0).setCell ⟨b, 1, none⟩ v1).setCell ⟨b, 2, none⟩ v2).setCell ⟨b, 3, none⟩ v3).cell? ⟨g6, 5, none⟩ = some (Value.int .u64 (wd 3 (sb))) ∧ ((((W.setCell ⟨b, 0, none⟩ v0).setCell ⟨b, 1, none⟩ v1).setCell ⟨b, 2, none⟩ v2).setCell ⟨b, 3, none⟩ v3).cell? ⟨g6, 6, none⟩ = some (Value.bool (false))) := ⟨(h5.put4 hb5 v0 v1 v2 v3).1, (h6.put4 hb6 v0 v1 v2 v3).1⟩
theorem RB.put4 {w W : World} {m a b c g : Nat} (h : RB w m a b c W) (hg : w.heap.size + 2 ≤ g) (v0 v1 v2 v3 : Value) : RB w m a b c ((((W.setCell ⟨g, 0, none⟩ v0).setCell ⟨g, 1, none⟩ v1).setCell ⟨g, 2, none⟩ v2).setCell ⟨g, 3, none⟩ v3) :=
  h.stepB (((((Below.refl _ _).setCell (p := ⟨g, _, none⟩) hg v0).setCell (p := ⟨g, _, none⟩) hg v1).setCell (p := ⟨g, _, none⟩) hg v2).setCell (p := ⟨g, _, none⟩) hg v3)
attribute [local go_sem] two_run
set_option maxRecDepth 100000 in
set_option maxHeartbeats 1000000 in
theorem div_bad1 (op m a b c : Nat) (Ka : Hid (∀ W, Calls Tryd.prog 15 #[.int .u64 a] W fun e w' => e = .returned (.int .i64 3) ∧ W = w')) (Kb : Hid (∀ W, Calls Tryd.prog 15 #[.int .u64 b] W fun e w' => e = .returned (.int .i64 3) ∧ W = w')) (sg : Nat) (hx : bits .and .u64 (bits .xor .u64 (a : Int) (b : Int)) 9223372036854775808 = sg) (w : World) :
    Calls Tryd.prog 36 #[REC op m a b c] w (SoftOut 9221120237041090560 16 false w) := by
  go_enter Tryd.func36, Tryd.ntmps36
  go_upto_region 2 with (fail)
  go_cut [4] (fun s wx => s = .pointer (some ⟨w.heap.size + 1 + 1, 0, none⟩) ∧ (((w.alloc (.cells #[.int .u8 op, .int .u8 m, .int .u64 a, .int .u64 b, .int .u64 c] 36)).alloc (.cells #[.int .u64 0, .int .u8 0, .bool false] 33)).alloc (.cells #[.int .i64 3, .int .i64 3] 53)).drew = wx)
  case first =>
    go_region_held3 (fun w' => (w'.cell? ⟨w.heap.size, 2, none⟩ = some (.int .u64 a) ∧ w'.cell? ⟨w.heap.size, 3, none⟩ = some (.int .u64 b)))
      (first
        | (refine ⟨?_, ?_⟩ <;> (go_simp; done))
        | go_keep)
      (first
        | (go_at_call_of 15 (Value.int IntKind.u64 a); refine (Ka.out _).mono ?_; rintro e w' ⟨rfl, rfl⟩)
        | (go_at_call_of 15 (Value.int IntKind.u64 b); refine (Kb.out _).mono ?_; rintro e w' ⟨rfl, rfl⟩))
    all_goals (go_wp2_with fail; go_meet; exact ⟨rfl, rfl⟩)
  case rest =>
    obtain ⟨rfl, rfl⟩ := hcut
    go_wp2_with (go_at_call 16; refine (bad_any _).mono ?_; rintro e w1 ⟨rfl, hb1⟩; obtain ⟨hc_, hf_⟩ := bcell1 hb1)
    all_goals refine bodyPost_ret (v := RES1 9221120237041090560 16 false) (by simp [results, Tryd.results36, go_sem, *]) rfl ⟨rfl, ?_⟩
    repeat' (first | with_reducible exact Below.refl _ _ | with_reducible assumption | with_reducible refine Below.drew ?_ | with_reducible refine bdrewN ?_ _ | with_reducible refine Below.alloc ?_ ?_ _ | with_reducible refine Below.setCell ?_ ?_ _ | with_reducible refine Below.trans ?_ (Below.mono (by assumption) ?_) | omega | (simp; done) | (simp; omega))
set_option maxRecDepth 100000 in
set_option maxHeartbeats 1000000 in
theorem div_bad2 (op m a b c : Nat) (Ka : Hid (∀ W, Calls Tryd.prog 15 #[.int .u64 a] W fun e w' => e = .returned (.int .i64 0) ∧ W = w')) (Kb : Hid (∀ W, Calls Tryd.prog 15 #[.int .u64 b] W fun e w' => e = .returned (.int .i64 0) ∧ W = w')) (sg : Nat) (hx : bits .and .u64 (bits .xor .u64 (a : Int) (b : Int)) 9223372036854775808 = sg) (w : World) :
    Calls Tryd.prog 36 #[REC op m a b c] w (SoftOut 9221120237041090560 16 false w) := by
  go_enter Tryd.func36, Tryd.ntmps36
  go_upto_region 2 with (fail)
  go_cut [4] (fun s wx => s = .pointer (some ⟨w.heap.size + 1 + 1, 0, none⟩) ∧ (((w.alloc (.cells #[.int .u8 op, .int .u8 m, .int .u64 a, .int .u64 b, .int .u64 c] 36)).alloc (.cells #[.int .u64 0, .int .u8 0, .bool false] 33)).alloc (.cells #[.int .i64 0, .int .i64 0] 53)).drew = wx)
  case first =>
    go_region_held3 (fun w' => (w'.cell? ⟨w.heap.size, 2, none⟩ = some (.int .u64 a) ∧ w'.cell? ⟨w.heap.size, 3, none⟩ = some (.int .u64 b)))
      (first
        | (refine ⟨?_, ?_⟩ <;> (go_simp; done))
        | go_keep)
      (first
        | (go_at_call_of 15 (Value.int IntKind.u64 a); refine (Ka.out _).mono ?_; rintro e w' ⟨rfl, rfl⟩)
        | (go_at_call_of 15 (Value.int IntKind.u64 b); refine (Kb.out _).mono ?_; rintro e w' ⟨rfl, rfl⟩))
    all_goals (go_wp2_with fail; go_meet; exact ⟨rfl, rfl⟩)
  case rest =>
    obtain ⟨rfl, rfl⟩ := hcut
    go_wp2_with (go_at_call 16; refine (bad_any _).mono ?_; rintro e w1 ⟨rfl, hb1⟩; obtain ⟨hc_, hf_⟩ := bcell1 hb1)
    all_goals refine bodyPost_ret (v := RES1 9221120237041090560 16 false) (by simp [results, Tryd.results36, go_sem, *]) rfl ⟨rfl, ?_⟩
    repeat' (first | with_reducible exact Below.refl _ _ | with_reducible assumption | with_reducible refine Below.drew ?_ | with_reducible refine bdrewN ?_ _ | with_reducible refine Below.alloc ?_ ?_ _ | with_reducible refine Below.setCell ?_ ?_ _ | with_reducible refine Below.trans ?_ (Below.mono (by assumption) ?_) | omega | (simp; done) | (simp; omega))
set_option maxRecDepth 100000 in
set_option maxHeartbeats 1000000 in
theorem div_inf (op m a b c kb : Nat) (Ka : Hid (∀ W, Calls Tryd.prog 15 #[.int .u64 a] W fun e w' => e = .returned (.int .i64 3) ∧ W = w')) (Kb : Hid (∀ W, Calls Tryd.prog 15 #[.int .u64 b] W fun e w' => e = .returned (.int .i64 (kb : Int)) ∧ W = w')) (sg : Nat) (hx : bits .and .u64 (bits .xor .u64 (a : Int) (b : Int)) 9223372036854775808 = sg) (bi : Nat) (hi : bits .or .u64 (sg : Int) 9218868437227405312 = bi) (hkb3 : ((kb : Int) == 3) = false) (w : World) :
    Calls Tryd.prog 36 #[REC op m a b c] w (SoftOut bi 0 false w) := by
  go_enter Tryd.func36, Tryd.ntmps36
  go_upto_region 2 with (fail)
  go_cut [4] (fun s wx => s = .pointer (some ⟨w.heap.size + 1 + 1, 0, none⟩) ∧ (((w.alloc (.cells #[.int .u8 op, .int .u8 m, .int .u64 a, .int .u64 b, .int .u64 c] 36)).alloc (.cells #[.int .u64 0, .int .u8 0, .bool false] 33)).alloc (.cells #[.int .i64 3, .int .i64 (kb : Int)] 53)).drew = wx)
  case first =>
    go_region_held3 (fun w' => (w'.cell? ⟨w.heap.size, 2, none⟩ = some (.int .u64 a) ∧ w'.cell? ⟨w.heap.size, 3, none⟩ = some (.int .u64 b)))
      (first
        | (refine ⟨?_, ?_⟩ <;> (go_simp; done))
        | go_keep)
      (first
        | (go_at_call_of 15 (Value.int IntKind.u64 a); refine (Ka.out _).mono ?_; rintro e w' ⟨rfl, rfl⟩)
        | (go_at_call_of 15 (Value.int IntKind.u64 b); refine (Kb.out _).mono ?_; rintro e w' ⟨rfl, rfl⟩))
    all_goals (go_wp2_with fail; go_meet; exact ⟨rfl, rfl⟩)
  case rest =>
    obtain ⟨rfl, rfl⟩ := hcut
    go_wp2_with fail
    all_goals refine bodyPost_ret (v := RES1 bi 0 false) (by simp [results, Tryd.results36, go_sem, *]) rfl ⟨rfl, ?_⟩
    repeat' (first | with_reducible exact Below.refl _ _ | with_reducible assumption | with_reducible refine Below.drew ?_ | with_reducible refine bdrewN ?_ _ | with_reducible refine Below.alloc ?_ ?_ _ | with_reducible refine Below.setCell ?_ ?_ _ | with_reducible refine Below.trans ?_ (Below.mono (by assumption) ?_) | omega | (simp; done) | (simp; omega))
set_option maxRecDepth 100000 in
set_option maxHeartbeats 1000000 in
theorem div_z1 (op m a b c ka : Nat) (Ka : Hid (∀ W, Calls Tryd.prog 15 #[.int .u64 a] W fun e w' => e = .returned (.int .i64 (ka : Int)) ∧ W = w')) (Kb : Hid (∀ W, Calls Tryd.prog 15 #[.int .u64 b] W fun e w' => e = .returned (.int .i64 3) ∧ W = w')) (sg : Nat) (hx : bits .and .u64 (bits .xor .u64 (a : Int) (b : Int)) 9223372036854775808 = sg) (hka3 : ((ka : Int) == 3) = false) (w : World) :
    Calls Tryd.prog 36 #[REC op m a b c] w (SoftOut sg 0 false w) := by
  go_enter Tryd.func36, Tryd.ntmps36
  go_upto_region 2 with (fail)
  go_cut [4] (fun s wx => s = .pointer (some ⟨w.heap.size + 1 + 1, 0, none⟩) ∧ (((w.alloc (.cells #[.int .u8 op, .int .u8 m, .int .u64 a, .int .u64 b, .int .u64 c] 36)).alloc (.cells #[.int .u64 0, .int .u8 0, .bool false] 33)).alloc (.cells #[.int .i64 (ka : Int), .int .i64 3] 53)).drew = wx)
  case first =>
    go_region_held3 (fun w' => (w'.cell? ⟨w.heap.size, 2, none⟩ = some (.int .u64 a) ∧ w'.cell? ⟨w.heap.size, 3, none⟩ = some (.int .u64 b)))
      (first
        | (refine ⟨?_, ?_⟩ <;> (go_simp; done))
        | go_keep)
      (first
        | (go_at_call_of 15 (Value.int IntKind.u64 a); refine (Ka.out _).mono ?_; rintro e w' ⟨rfl, rfl⟩)
        | (go_at_call_of 15 (Value.int IntKind.u64 b); refine (Kb.out _).mono ?_; rintro e w' ⟨rfl, rfl⟩))
    all_goals (go_wp2_with fail; go_meet; exact ⟨rfl, rfl⟩)
  case rest =>
    obtain ⟨rfl, rfl⟩ := hcut
    go_wp2_with fail
    all_goals refine bodyPost_ret (v := RES1 sg 0 false) (by simp [results, Tryd.results36, go_sem, *]) rfl ⟨rfl, ?_⟩
    repeat' (first | with_reducible exact Below.refl _ _ | with_reducible assumption | with_reducible refine Below.drew ?_ | with_reducible refine bdrewN ?_ _ | with_reducible refine Below.alloc ?_ ?_ _ | with_reducible refine Below.setCell ?_ ?_ _ | with_reducible refine Below.trans ?_ (Below.mono (by assumption) ?_) | omega | (simp; done) | (simp; omega))
set_option maxRecDepth 100000 in
set_option maxHeartbeats 1000000 in
theorem div_z2 (op m a b c kb : Nat) (Ka : Hid (∀ W, Calls Tryd.prog 15 #[.int .u64 a] W fun e w' => e = .returned (.int .i64 0) ∧ W = w')) (Kb : Hid (∀ W, Calls Tryd.prog 15 #[.int .u64 b] W fun e w' => e = .returned (.int .i64 (kb : Int)) ∧ W = w')) (sg : Nat) (hx : bits .and .u64 (bits .xor .u64 (a : Int) (b : Int)) 9223372036854775808 = sg) (hkb3 : ((kb : Int) == 3) = false) (hkb0 : ((kb : Int) == 0) = false) (w : World) :
    Calls Tryd.prog 36 #[REC op m a b c] w (SoftOut sg 0 false w) := by
  go_enter Tryd.func36, Tryd.ntmps36
  go_upto_region 2 with (fail)
  go_cut [4] (fun s wx => s = .pointer (some ⟨w.heap.size + 1 + 1, 0, none⟩) ∧ (((w.alloc (.cells #[.int .u8 op, .int .u8 m, .int .u64 a, .int .u64 b, .int .u64 c] 36)).alloc (.cells #[.int .u64 0, .int .u8 0, .bool false] 33)).alloc (.cells #[.int .i64 0, .int .i64 (kb : Int)] 53)).drew = wx)
  case first =>
    go_region_held3 (fun w' => (w'.cell? ⟨w.heap.size, 2, none⟩ = some (.int .u64 a) ∧ w'.cell? ⟨w.heap.size, 3, none⟩ = some (.int .u64 b)))
      (first
        | (refine ⟨?_, ?_⟩ <;> (go_simp; done))
        | go_keep)
      (first
        | (go_at_call_of 15 (Value.int IntKind.u64 a); refine (Ka.out _).mono ?_; rintro e w' ⟨rfl, rfl⟩)
        | (go_at_call_of 15 (Value.int IntKind.u64 b); refine (Kb.out _).mono ?_; rintro e w' ⟨rfl, rfl⟩))
    all_goals (go_wp2_with fail; go_meet; exact ⟨rfl, rfl⟩)
  case rest =>
    obtain ⟨rfl, rfl⟩ := hcut
    go_wp2_with fail
    all_goals refine bodyPost_ret (v := RES1 sg 0 false) (by simp [results, Tryd.results36, go_sem, *]) rfl ⟨rfl, ?_⟩
    repeat' (first | with_reducible exact Below.refl _ _ | with_reducible assumption | with_reducible refine Below.drew ?_ | with_reducible refine bdrewN ?_ _ | with_reducible refine Below.alloc ?_ ?_ _ | with_reducible refine Below.setCell ?_ ?_ _ | with_reducible refine Below.trans ?_ (Below.mono (by assumption) ?_) | omega | (simp; done) | (simp; omega))
set_option maxRecDepth 100000 in
set_option maxHeartbeats 1000000 in
theorem div_dz (op m a b c ka : Nat) (Ka : Hid (∀ W, Calls Tryd.prog 15 #[.int .u64 a] W fun e w' => e = .returned (.int .i64 (ka : Int)) ∧ W = w')) (Kb : Hid (∀ W, Calls Tryd.prog 15 #[.int .u64 b] W fun e w' => e = .returned (.int .i64 0) ∧ W = w')) (sg : Nat) (hx : bits .and .u64 (bits .xor .u64 (a : Int) (b : Int)) 9223372036854775808 = sg) (bi : Nat) (hi : bits .or .u64 (sg : Int) 9218868437227405312 = bi) (hka3 : ((ka : Int) == 3) = false) (hka0 : ((ka : Int) == 0) = false) (w : World) :
    Calls Tryd.prog 36 #[REC op m a b c] w (SoftOut bi 8 false w) := by
  go_enter Tryd.func36, Tryd.ntmps36
  go_upto_region 2 with (fail)
  go_cut [4] (fun s wx => s = .pointer (some ⟨w.heap.size + 1 + 1, 0, none⟩) ∧ (((w.alloc (.cells #[.int .u8 op, .int .u8 m, .int .u64 a, .int .u64 b, .int .u64 c] 36)).alloc (.cells #[.int .u64 0, .int .u8 0, .bool false] 33)).alloc (.cells #[.int .i64 (ka : Int), .int .i64 0] 53)).drew = wx)
  case first =>
    go_region_held3 (fun w' => (w'.cell? ⟨w.heap.size, 2, none⟩ = some (.int .u64 a) ∧ w'.cell? ⟨w.heap.size, 3, none⟩ = some (.int .u64 b)))
      (first
        | (refine ⟨?_, ?_⟩ <;> (go_simp; done))
        | go_keep)
      (first
        | (go_at_call_of 15 (Value.int IntKind.u64 a); refine (Ka.out _).mono ?_; rintro e w' ⟨rfl, rfl⟩)
        | (go_at_call_of 15 (Value.int IntKind.u64 b); refine (Kb.out _).mono ?_; rintro e w' ⟨rfl, rfl⟩))
    all_goals (go_wp2_with fail; go_meet; exact ⟨rfl, rfl⟩)
  case rest =>
    obtain ⟨rfl, rfl⟩ := hcut
    go_wp2_with fail
    all_goals refine bodyPost_ret (v := RES1 bi 8 false) (by simp [results, Tryd.results36, go_sem, *]) rfl ⟨rfl, ?_⟩
    repeat' (first | with_reducible exact Below.refl _ _ | with_reducible assumption | with_reducible refine Below.drew ?_ | with_reducible refine bdrewN ?_ _ | with_reducible refine Below.alloc ?_ ?_ _ | with_reducible refine Below.setCell ?_ ?_ _ | with_reducible refine Below.trans ?_ (Below.mono (by assumption) ?_) | omega | (simp; done) | (simp; omega))
set_option maxRecDepth 100000 in
set_option maxHeartbeats 4000000 in
theorem div_go (op m a b c ka kb : Nat) (Ka : Hid (∀ W, Calls Tryd.prog 15 #[.int .u64 a] W fun e w' => e = .returned (.int .i64 (ka : Int)) ∧ W = w')) (Kb : Hid (∀ W, Calls Tryd.prog 15 #[.int .u64 b] W fun e w' => e = .returned (.int .i64 (kb : Int)) ∧ W = w')) (sg : Nat) (hx : bits .and .u64 (bits .xor .u64 (a : Int) (b : Int)) 9223372036854775808 = sg) (na nb ng lq : Bool) (ea eb E : Int) (sa sb N Q bt fl : Nat) (Ua : Hid (∀ W, Calls Tryd.prog 44 #[.int .u64 a] W fun e w' => e = .returned (NV na ea sa false) ∧ Below W.heap.size W w')) (Ub : Hid (∀ W, Calls Tryd.prog 44 #[.int .u64 b] W fun e w' => e = .returned (NV nb eb sb false) ∧ Below W.heap.size W w')) (SH : Hid (∀ W, Calls Tryd.prog 48 #[W4 sa, .int .i64 150] W fun e w' => e = .returned (W4 N) ∧ Below W.heap.size W w'))
    (DV : Hid (∀ W, Calls Tryd.prog 47 #[W4 N, .int .u64 (wd 0 sb)] W fun e w' => e = .returned (.tuple #[W4 Q, .bool lq]) ∧ Below W.heap.size W w'))
    (hng : (na != nb) = ng) (hE1 : wrap64 (ea - 150) = ea - 150) (hE : wrap64 (ea - 150 - eb) = E) (R : Hid (∀ W, Calls Tryd.prog 46 #[NV ng E Q lq, .int .u8 m] W (SoftOut bt fl false W))) (hka0 : ((ka : Int) == 0) = false) (hka3 : ((ka : Int) == 3) = false) (hkb0 : ((kb : Int) == 0) = false) (hkb3 : ((kb : Int) == 3) = false) (w : World) :
    Calls Tryd.prog 36 #[REC op m a b c] w (SoftOut bt fl false w) := by
  go_enter Tryd.func36, Tryd.ntmps36
  go_upto_region 2 with (fail)
  go_cut [4] (fun s wx => s = .pointer (some ⟨w.heap.size + 1 + 1, 0, none⟩) ∧ (((w.alloc (.cells #[.int .u8 op, .int .u8 m, .int .u64 a, .int .u64 b, .int .u64 c] 36)).alloc (.cells #[.int .u64 0, .int .u8 0, .bool false] 33)).alloc (.cells #[.int .i64 (ka : Int), .int .i64 (kb : Int)] 53)).drew = wx)
  case first =>
    go_region_held3 (fun w' => (w'.cell? ⟨w.heap.size, 2, none⟩ = some (.int .u64 a) ∧ w'.cell? ⟨w.heap.size, 3, none⟩ = some (.int .u64 b)))
      (first
        | (refine ⟨?_, ?_⟩ <;> (go_simp; done))
        | go_keep)
      (first
        | (go_at_call_of 15 (Value.int IntKind.u64 a); refine (Ka.out _).mono ?_; rintro e w' ⟨rfl, rfl⟩)
        | (go_at_call_of 15 (Value.int IntKind.u64 b); refine (Kb.out _).mono ?_; rintro e w' ⟨rfl, rfl⟩))
    all_goals (go_wp2_with fail; go_meet; exact ⟨rfl, rfl⟩)
  case rest =>
    obtain ⟨rfl, rfl⟩ := hcut
    have hK_1 : RB w m a b c (((w.alloc (.cells #[.int .u8 op, .int .u8 m, .int .u64 a, .int .u64 b, .int .u64 c] 36)).alloc (.cells #[.int .u64 0, .int .u8 0, .bool false] 33)).alloc (.cells #[.int .i64 ka, .int .i64 kb] 53)) := ((RB.start op).alloc _)
    have hK_0 : RB w m a b c (((w.alloc (.cells #[.int .u8 op, .int .u8 m, .int .u64 a, .int .u64 b, .int .u64 c] 36)).alloc (.cells #[.int .u64 0, .int .u8 0, .bool false] 33)).alloc (.cells #[.int .i64 ka, .int .i64 kb] 53)).drew := ((RB.start op).alloc _).drew
    go_upto_region 11 with (fail)
    go_cut [5, 6] (fun s5 s6 wx => ∃ g5 g6 : Nat, s5 = .pointer (some ⟨g5, 0, none⟩) ∧ s6 = .pointer (some ⟨g6, 0, none⟩) ∧ NB wx g5 na ea sa false ∧ NB wx g6 nb eb sb false ∧ RB w m a b c wx)
    case first =>
      go_region_held3 (fun w' => (w'.cell? ⟨w.heap.size, 1, none⟩ = some (.int .u8 m) ∧ w'.cell? ⟨w.heap.size, 2, none⟩ = some (.int .u64 a) ∧ w'.cell? ⟨w.heap.size, 3, none⟩ = some (.int .u64 b) ∧ w'.cell? ⟨w.heap.size, 4, none⟩ = some (.int .u64 c)))
        (first
          | with_reducible exact hS_w2
          | with_reducible exact hS_w1
          | with_reducible exact hK_0.1
          | (refine ⟨?_, ?_, ?_, ?_⟩ <;> (go_simp; done))
          | go_keep)
        (first
          | (go_at_call_of 44 (Value.int IntKind.u64 a); refine (Ua.out _).mono ?_; rintro e w1 ⟨rfl, hb1⟩; have hK_w1 : RB w m a b c w1 := RB.step (by (repeat' (first | with_reducible assumption | refine RB.drew ?_ | refine RB.alloc ?_ _))) hb1; have hL_w1 := hK_w1; obtain ⟨hS_w1, ⟨hk0_w1, hk1_w1, hk2_w1⟩, ⟨hg0_w1, hg1_w1, hg2_w1⟩, _⟩ := hL_w1; have hz_w1 := hb1.size; (try simp at hz_w1); have ho_w1 : w.heap.size + 1 < w1.heap.size := (by omega); have hp_w1 : w.heap.size < w1.heap.size := (by omega); (try ((first | have za_w1 := NB.call (NB.zeroD) hb1 | have za_w1 := NB.call (NB.drew (NB.zeroD)) hb1 | have za_w1 := NB.call (NB.drew (NB.drew (NB.zeroD))) hb1); (try simp at za_w1); have hl_za_w1 := za_w1.lt; have za_w1k := za_w1; obtain ⟨⟨zz0, zz1, zz2, zz3, zz4, zz5, zz6⟩, zy0, zy1, zy2, zy3, zy4, zy5, zy6⟩ := za_w1)); (try ((first | have zb_w1 := NB.call (NB.alloc NB.zeroD _) hb1 | have zb_w1 := NB.call (NB.drew (NB.alloc NB.zeroD _)) hb1 | have zb_w1 := NB.call (NB.drew (NB.drew (NB.alloc NB.zeroD _))) hb1); (try simp at zb_w1); have hl_zb_w1 := zb_w1.lt; have zb_w1k := zb_w1; obtain ⟨⟨zz0, zz1, zz2, zz3, zz4, zz5, zz6⟩, zy0, zy1, zy2, zy3, zy4, zy5, zy6⟩ := zb_w1)); (try ((first | have zc_za_w2k := NB.call za_w2k hb1 | have zc_za_w2k := NB.call (NB.alloc za_w2k _) hb1 | have zc_za_w2k := NB.call (NB.alloc (NB.alloc za_w2k _) _) hb1); (try simp at zc_za_w2k); have hl_zc_za_w2k := zc_za_w2k.lt; have zc_za_w2kk := zc_za_w2k; obtain ⟨⟨zz0, zz1, zz2, zz3, zz4, zz5, zz6⟩, zy0, zy1, zy2, zy3, zy4, zy5, zy6⟩ := zc_za_w2k)); (try ((first | have zc_zb_w2k := NB.call zb_w2k hb1 | have zc_zb_w2k := NB.call (NB.alloc zb_w2k _) hb1 | have zc_zb_w2k := NB.call (NB.alloc (NB.alloc zb_w2k _) _) hb1); (try simp at zc_zb_w2k); have hl_zc_zb_w2k := zc_zb_w2k.lt; have zc_zb_w2kk := zc_zb_w2k; obtain ⟨⟨zz0, zz1, zz2, zz3, zz4, zz5, zz6⟩, zy0, zy1, zy2, zy3, zy4, zy5, zy6⟩ := zc_zb_w2k)))
          | (go_at_call_of 44 (Value.int IntKind.u64 b); refine (Ub.out _).mono ?_; rintro e w2 ⟨rfl, hb2⟩; have hK_w2 : RB w m a b c w2 := RB.step (by (repeat' (first | with_reducible assumption | refine RB.drew ?_ | refine RB.alloc ?_ _))) hb2; have hL_w2 := hK_w2; obtain ⟨hS_w2, ⟨hk0_w2, hk1_w2, hk2_w2⟩, ⟨hg0_w2, hg1_w2, hg2_w2⟩, _⟩ := hL_w2; have hz_w2 := hb2.size; (try simp at hz_w2); have ho_w2 : w.heap.size + 1 < w2.heap.size := (by omega); have hp_w2 : w.heap.size < w2.heap.size := (by omega); (try ((first | have za_w2 := NB.call (NB.zeroD) hb2 | have za_w2 := NB.call (NB.drew (NB.zeroD)) hb2 | have za_w2 := NB.call (NB.drew (NB.drew (NB.zeroD))) hb2); (try simp at za_w2); have hl_za_w2 := za_w2.lt; have za_w2k := za_w2; obtain ⟨⟨zz0, zz1, zz2, zz3, zz4, zz5, zz6⟩, zy0, zy1, zy2, zy3, zy4, zy5, zy6⟩ := za_w2)); (try ((first | have zb_w2 := NB.call (NB.alloc NB.zeroD _) hb2 | have zb_w2 := NB.call (NB.drew (NB.alloc NB.zeroD _)) hb2 | have zb_w2 := NB.call (NB.drew (NB.drew (NB.alloc NB.zeroD _))) hb2); (try simp at zb_w2); have hl_zb_w2 := zb_w2.lt; have zb_w2k := zb_w2; obtain ⟨⟨zz0, zz1, zz2, zz3, zz4, zz5, zz6⟩, zy0, zy1, zy2, zy3, zy4, zy5, zy6⟩ := zb_w2)); (try ((first | have zc_za_w1k := NB.call za_w1k hb2 | have zc_za_w1k := NB.call (NB.alloc za_w1k _) hb2 | have zc_za_w1k := NB.call (NB.alloc (NB.alloc za_w1k _) _) hb2); (try simp at zc_za_w1k); have hl_zc_za_w1k := zc_za_w1k.lt; have zc_za_w1kk := zc_za_w1k; obtain ⟨⟨zz0, zz1, zz2, zz3, zz4, zz5, zz6⟩, zy0, zy1, zy2, zy3, zy4, zy5, zy6⟩ := zc_za_w1k)); (try ((first | have zc_zb_w1k := NB.call zb_w1k hb2 | have zc_zb_w1k := NB.call (NB.alloc zb_w1k _) hb2 | have zc_zb_w1k := NB.call (NB.alloc (NB.alloc zb_w1k _) _) hb2); (try simp at zc_zb_w1k); have hl_zc_zb_w1k := zc_zb_w1k.lt; have zc_zb_w1kk := zc_zb_w1k; obtain ⟨⟨zz0, zz1, zz2, zz3, zz4, zz5, zz6⟩, zy0, zy1, zy2, zy3, zy4, zy5, zy6⟩ := zc_zb_w1k))))
      all_goals
        go_wp2_with fail
        go_meet
        refine ⟨_, _, rfl, rfl, ?_, ?_, by repeat' (first | with_reducible assumption | with_reducible refine RB.drew ?_ | with_reducible refine RB.alloc ?_ _ | with_reducible refine RB.put7 ?_ (by omega) _ _ _ _ _ _ _)⟩
        · repeat' (first | with_reducible assumption | with_reducible refine NB.put7 (n := false) (e := 0) (s := 0) (l := false) ?_ | with_reducible refine NB.far7 ?_ (by omega) _ _ _ _ _ _ _ | with_reducible exact NB.zeroAt (by first | rfl | (simp; done)) | with_reducible exact NB.newAt (by first | rfl | (simp; done)) | with_reducible refine NB.alloc ?_ _ | with_reducible refine NB.drew ?_)
        · repeat' (first | with_reducible assumption | with_reducible refine NB.put7 (n := false) (e := 0) (s := 0) (l := false) ?_ | with_reducible refine NB.far7 ?_ (by omega) _ _ _ _ _ _ _ | with_reducible exact NB.zeroAt (by first | rfl | (simp; done)) | with_reducible exact NB.newAt (by first | rfl | (simp; done)) | with_reducible refine NB.alloc ?_ _ | with_reducible refine NB.drew ?_)
    case rest =>
      obtain ⟨g5, g6, rfl, rfl, p5, p6, hK⟩ := hcut
      clear hK_0
      have q5 := p5
      have q6 := p6
      have hKm := hK.1.1
      obtain ⟨⟨x0, x1, x2, x3, x4, x5, x6⟩, xf0, xf1, xf2, xf3, xf4, xf5, xf6⟩ := q5
      obtain ⟨⟨y0, y1, y2, y3, y4, y5, y6⟩, yf0, yf1, yf2, yf3, yf4, yf5, yf6⟩ := q6
      go_upto_region 12 with (fail)
      go_cut [7, 8] (fun s7 s8 wx => ∃ g7 : Nat, s7 = .pointer (some ⟨g7, 0, none⟩) ∧ s8 = .bool lq ∧ (wx.cell? ⟨g7, 0, none⟩ = some (.int .u64 (wd 0 Q)) ∧ wx.cell? ⟨g7, 1, none⟩ = some (.int .u64 (wd 1 Q)) ∧ wx.cell? ⟨g7, 2, none⟩ = some (.int .u64 (wd 2 Q)) ∧ wx.cell? ⟨g7, 3, none⟩ = some (.int .u64 (wd 3 Q))) ∧ NB wx g5 na ea sa false ∧ NB wx g6 nb eb sb false ∧ RB w m a b c wx)
      case first =>
        have hS_0 := And.intro p5.1 p6.1
        have hl5 := p5.lt
        have hl6 := p6.lt
        have hzX := hK.2.2.2.1
        go_region_held3 (fun w' => (w'.cell? ⟨g5, 0, none⟩ = some (Value.bool (na)) ∧ w'.cell? ⟨g5, 1, none⟩ = some (Value.int .i64 (ea)) ∧ w'.cell? ⟨g5, 2, none⟩ = some (Value.int .u64 (wd 0 (sa))) ∧ w'.cell? ⟨g5, 3, none⟩ = some (Value.int .u64 (wd 1 (sa))) ∧ w'.cell? ⟨g5, 4, none⟩ = some (Value.int .u64 (wd 2 (sa))) ∧ w'.cell? ⟨g5, 5, none⟩ = some (Value.int .u64 (wd 3 (sa))) ∧ w'.cell? ⟨g5, 6, none⟩ = some (Value.bool (false))) ∧ (w'.cell? ⟨g6, 0, none⟩ = some (Value.bool (nb)) ∧ w'.cell? ⟨g6, 1, none⟩ = some (Value.int .i64 (eb)) ∧ w'.cell? ⟨g6, 2, none⟩ = some (Value.int .u64 (wd 0 (sb))) ∧ w'.cell? ⟨g6, 3, none⟩ = some (Value.int .u64 (wd 1 (sb))) ∧ w'.cell? ⟨g6, 4, none⟩ = some (Value.int .u64 (wd 2 (sb))) ∧ w'.cell? ⟨g6, 5, none⟩ = some (Value.int .u64 (wd 3 (sb))) ∧ w'.cell? ⟨g6, 6, none⟩ = some (Value.bool (false))))
          (first
            | with_reducible exact hS_4
            | with_reducible exact two_put4 p5_2 p6_2 (by omega) (by omega) _ _ _ _
            | with_reducible exact two_put4 (p5_2.alloc _) (p6_2.alloc _) (by first | (simp; omega) | omega) (by first | (simp; omega) | omega) _ _ _ _
            | with_reducible exact hS_3
            | with_reducible exact hS_0
            | go_keep)
          (first
            | (go_at_call 48; refine (SH.out _).mono ?_; rintro e w3 ⟨rfl, hb3⟩; have p5_1 : NB w3 g5 na ea sa false := NB.call (by repeat' (first | with_reducible assumption | refine NB.drew ?_ | refine NB.alloc ?_ _)) hb3; have p6_1 : NB w3 g6 nb eb sb false := NB.call (by repeat' (first | with_reducible assumption | refine NB.drew ?_ | refine NB.alloc ?_ _)) hb3; have hS_3 : ((w3.cell? ⟨g5, 0, none⟩ = some (Value.bool (na)) ∧ w3.cell? ⟨g5, 1, none⟩ = some (Value.int .i64 (ea)) ∧ w3.cell? ⟨g5, 2, none⟩ = some (Value.int .u64 (wd 0 (sa))) ∧ w3.cell? ⟨g5, 3, none⟩ = some (Value.int .u64 (wd 1 (sa))) ∧ w3.cell? ⟨g5, 4, none⟩ = some (Value.int .u64 (wd 2 (sa))) ∧ w3.cell? ⟨g5, 5, none⟩ = some (Value.int .u64 (wd 3 (sa))) ∧ w3.cell? ⟨g5, 6, none⟩ = some (Value.bool (false))) ∧ (w3.cell? ⟨g6, 0, none⟩ = some (Value.bool (nb)) ∧ w3.cell? ⟨g6, 1, none⟩ = some (Value.int .i64 (eb)) ∧ w3.cell? ⟨g6, 2, none⟩ = some (Value.int .u64 (wd 0 (sb))) ∧ w3.cell? ⟨g6, 3, none⟩ = some (Value.int .u64 (wd 1 (sb))) ∧ w3.cell? ⟨g6, 4, none⟩ = some (Value.int .u64 (wd 2 (sb))) ∧ w3.cell? ⟨g6, 5, none⟩ = some (Value.int .u64 (wd 3 (sb))) ∧ w3.cell? ⟨g6, 6, none⟩ = some (Value.bool (false)))) := ⟨p5_1.1, p6_1.1⟩; have hl5_1 := p5_1.lt; have hl6_1 := p6_1.lt; have hK3 : RB w m a b c w3 := RB.step (by repeat' (first | with_reducible assumption | refine RB.drew ?_ | refine RB.alloc ?_ _)) hb3; have hz_w3 := hb3.size; (try simp at hz_w3); (try ((first | have zq3 := K4.call (K4.new _ _ _ _ _ _) hb3 | have zq3 := K4.call (K4.drew (K4.new _ _ _ _ _ _)) hb3 | have zq3 := K4.call (K4.drew (K4.drew (K4.new _ _ _ _ _ _))) hb3); (try simp at zq3); have zq3k := zq3; have hl_zq3 := zq3.lt; obtain ⟨⟨zz0, zz1, zz2, zz3⟩, zy0, zy1, zy2, zy3⟩ := zq3)))
            | (go_at_call 47; refine (DV.out _).mono ?_; rintro e w4 ⟨rfl, hb4⟩; have p5_2 : NB w4 g5 na ea sa false := NB.call (by repeat' (first | with_reducible assumption | refine NB.drew ?_ | refine NB.alloc ?_ _)) hb4; have p6_2 : NB w4 g6 nb eb sb false := NB.call (by repeat' (first | with_reducible assumption | refine NB.drew ?_ | refine NB.alloc ?_ _)) hb4; have hS_4 : ((w4.cell? ⟨g5, 0, none⟩ = some (Value.bool (na)) ∧ w4.cell? ⟨g5, 1, none⟩ = some (Value.int .i64 (ea)) ∧ w4.cell? ⟨g5, 2, none⟩ = some (Value.int .u64 (wd 0 (sa))) ∧ w4.cell? ⟨g5, 3, none⟩ = some (Value.int .u64 (wd 1 (sa))) ∧ w4.cell? ⟨g5, 4, none⟩ = some (Value.int .u64 (wd 2 (sa))) ∧ w4.cell? ⟨g5, 5, none⟩ = some (Value.int .u64 (wd 3 (sa))) ∧ w4.cell? ⟨g5, 6, none⟩ = some (Value.bool (false))) ∧ (w4.cell? ⟨g6, 0, none⟩ = some (Value.bool (nb)) ∧ w4.cell? ⟨g6, 1, none⟩ = some (Value.int .i64 (eb)) ∧ w4.cell? ⟨g6, 2, none⟩ = some (Value.int .u64 (wd 0 (sb))) ∧ w4.cell? ⟨g6, 3, none⟩ = some (Value.int .u64 (wd 1 (sb))) ∧ w4.cell? ⟨g6, 4, none⟩ = some (Value.int .u64 (wd 2 (sb))) ∧ w4.cell? ⟨g6, 5, none⟩ = some (Value.int .u64 (wd 3 (sb))) ∧ w4.cell? ⟨g6, 6, none⟩ = some (Value.bool (false)))) := ⟨p5_2.1, p6_2.1⟩; have hl5_2 := p5_2.lt; have hl6_2 := p6_2.lt; have hK4 : RB w m a b c w4 := RB.step (by repeat' (first | with_reducible assumption | refine RB.drew ?_ | refine RB.alloc ?_ _)) hb4; have hz_w4 := hb4.size; (try simp at hz_w4); (try ((first | have zq4 := K4.call (K4.new _ _ _ _ _ _) hb4 | have zq4 := K4.call (K4.drew (K4.new _ _ _ _ _ _)) hb4 | have zq4 := K4.call (K4.drew (K4.drew (K4.new _ _ _ _ _ _))) hb4); (try simp at zq4); have zq4k := zq4; have hl_zq4 := zq4.lt; obtain ⟨⟨zz0, zz1, zz2, zz3⟩, zy0, zy1, zy2, zy3⟩ := zq4)); (try ((first | have zq5 := K4.call zq3k hb4 | have zq5 := K4.call (K4.drew zq3k) hb4); (try simp at zq5); have zq5k := zq5; have hl_zq5 := zq5.lt; obtain ⟨⟨zz0, zz1, zz2, zz3⟩, zy0, zy1, zy2, zy3⟩ := zq5))))
        all_goals
          go_wp2_with fail
          go_meet
          refine ⟨_, rfl, rfl, ?_, by repeat' (first | with_reducible assumption | with_reducible refine NB.drew ?_ | with_reducible refine NB.alloc ?_ _ | with_reducible refine NB.put4 ?_ (by omega) _ _ _ _), by repeat' (first | with_reducible assumption | with_reducible refine NB.drew ?_ | with_reducible refine NB.alloc ?_ _ | with_reducible refine NB.put4 ?_ (by omega) _ _ _ _), by repeat' (first | with_reducible assumption | with_reducible refine RB.drew ?_ | with_reducible refine RB.alloc ?_ _ | with_reducible refine RB.put4 ?_ (by omega) _ _ _ _)⟩
          refine ⟨?_, ?_, ?_, ?_⟩ <;> (go_simp; done)
      case rest =>
        obtain ⟨g7, rfl, rfl, ⟨z0, z1, z2, z3⟩, p5', p6', hK'⟩ := hcut
        clear p5 p6 hK hKm x0 x1 x2 x3 x4 x5 x6 xf0 xf1 xf2 xf3 xf4 xf5 xf6 y0 y1 y2 y3 y4 y5 y6 yf0 yf1 yf2 yf3 yf4 yf5 yf6 SH DV
        have hKm := hK'.1.1
        obtain ⟨⟨x0, x1, x2, x3, x4, x5, x6⟩, xf0, xf1, xf2, xf3, xf4, xf5, xf6⟩ := p5'
        obtain ⟨⟨y0, y1, y2, y3, y4, y5, y6⟩, yf0, yf1, yf2, yf3, yf4, yf5, yf6⟩ := p6'
        go_wp2_with fail
        have hng' : (!(na == nb)) = ng := hng
        rw [hng']
        refine (R.out _).mono ?_
        rintro e w5 ⟨rfl, hb5⟩
        have hK5 := hK'.step hb5
        have hL5 := hK5
        obtain ⟨_, ⟨k0, k1, k2⟩, ⟨f0, f1, f2⟩, _⟩ := hL5
        go_wp2_with fail
        refine bodyPost_ret (v := RES1 bt fl false) (by simp [results, Tryd.results36, go_sem, *]) rfl ⟨rfl, ?_⟩
        exact hK5.laid _ _ _
end Go.Proofs.YtldmbneckcjonabDoor
namespace Go.Proofs.YtldmbneckcjonabDoor
open Go.RowKit
theorem sigU_shl (a : Nat) : U256 (sigU a * 2 ^ 150) := by
  have h1 := sigU_lt a
  unfold U256
  exact Nat.lt_of_lt_of_le (Nat.mul_lt_mul_of_pos_right h1 (Nat.two_pow_pos 150)) (by decide)
theorem shl_sig (a : Nat) (W : World) : Calls Tryd.prog 48 #[W4 (sigU a), .int .i64 150] W fun e w' => e = .returned (W4 (sigU a * 2 ^ 150)) ∧ Below W.heap.size W w' := by
  have hu := sigU_shl a
  have h0 : U256 (sigU a) := by have := sigU_u256 a a; exact Nat.lt_of_le_of_lt (Nat.le_mul_of_pos_right _ (Nat.two_pow_pos 150)) hu
  have := Shl_any (sigU a) h0 150 (by decide) (by decide) W
  rw [shlN_def, show (150 : Int).toNat = 150 from rfl, Nat.mod_eq_of_lt hu.out] at this
  exact this
theorem wrap64_of {x : Int} (h1 : -1000000 ≤ x) (h2 : x ≤ 1000000) : wrap64 x = x := by unfold wrap64; omega
theorem div_any (op m a b c : Nat) (hm : m < 5) (ua : U64 a) (ub : U64 b) (ka : kindN a < 4) (kb : kindN b < 4) (w : World) : Calls Tryd.prog 36 #[REC op m a b c] w (SoftOut (divS m a b).1 (divS m a b).2 false w) := by
  have Ka := Lib.hid (fun W => kindOf_any a W)
  have Kb := Lib.hid (fun W => kindOf_any b W)
  have hx := xor_sign ua ub
  have hor := or_sign (negU a != negU b) 9218868437227405312 (by omega)
  have za := kind_zero (x := a)
  have zb := kind_zero (x := b)
  by_cases h1 : kindN a = 3 ∧ kindN b = 3
  · have e : divS m a b = (9221120237041090560, 16) := by unfold divS; rw [if_pos (.inl h1)]
    rw [e]; rw [h1.1] at Ka; rw [h1.2] at Kb
    exact div_bad1 op m a b c Ka Kb _ hx w
  · by_cases h2 : kindN a = 0 ∧ kindN b = 0
    · have e : divS m a b = (9221120237041090560, 16) := by unfold divS; rw [if_pos (.inr h2)]
      rw [e]; rw [h2.1] at Ka; rw [h2.2] at Kb
      exact div_bad2 op m a b c Ka Kb _ hx w
    · have e0 : divS m a b = if kindN a = 3 then (signN (negU a != negU b) + 9218868437227405312, 0)
          else if kindN b = 3 ∨ kindN a = 0 then (signN (negU a != negU b), 0)
          else if kindN b = 0 then (signN (negU a != negU b) + 9218868437227405312, 8)
          else roundS m (negU a != negU b) (mk2 (exN a * 2 ^ 120 / exN b) (decide (exN a * 2 ^ 120 % exN b = 0))) false (exE a - 120 - exE b - 1) := by unfold divS; rw [if_neg (by omega)]
      rw [e0]
      by_cases h3 : kindN a = 3
      · rw [if_pos h3]
        rw [h3] at Ka
        exact div_inf op m a b c _ Ka Kb _ hx _ hor (nef (n := 3) (by omega)) w
      · rw [if_neg h3]
        by_cases h4 : kindN b = 3
        · rw [if_pos (.inl h4)]
          rw [h4] at Kb
          exact div_z1 op m a b c _ Ka Kb _ hx (nef (n := 3) h3) w
        · by_cases h5 : kindN a = 0
          · rw [if_pos (.inr h5)]
            rw [h5] at Ka
            exact div_z2 op m a b c _ Ka Kb _ hx (nef (n := 3) h4) (nef (n := 0) (by omega)) w
          · rw [if_neg (by omega)]
            by_cases h6 : kindN b = 0
            · rw [if_pos h6]
              rw [h6] at Kb
              exact div_dz op m a b c _ Ka Kb _ hx _ hor (nef (n := 3) h3) (nef (n := 0) h5) w
            · rw [if_neg h6]
              have ha : exN a ≠ 0 := by omega
              have hb : exN b ≠ 0 := by omega
              rw [← div_same ha hb]
              have hsa : sigU a ≠ 0 := by rw [Ne, sigU_zero]; exact ha
              have hsb : sigU b ≠ 0 := by rw [Ne, sigU_zero]; exact hb
              have b1 := expU_bounds a
              have b2 := expU_bounds b
              have hq : sigU a * 2 ^ 150 / sigU b ≠ 0 := by
                have h1 := sigU_lt b
                have h2 : sigU b ≤ sigU a * 2 ^ 150 := Nat.le_trans (by omega : sigU b ≤ 2 ^ 150) (Nat.le_mul_of_pos_left _ (by omega))
                have := Nat.div_pos h2 (by omega)
                omega
              have hqu : U256 (sigU a * 2 ^ 150 / sigU b) := Nat.lt_of_le_of_lt (Nat.div_le_self _ _) (sigU_shl a).out
              have hub : U64 (sigU b) := by have := sigU_lt b; unfold U64; omega
              exact div_go op m a b c _ _ Ka Kb _ hx _ _ _ _ _ _ _ _ _ _ _ _ _ (fun W => unpack_any a ua W) (fun W => unpack_any b ub W) (fun W => shl_sig a W) (fun W => by rw [wd_sig]; exact Div_any _ _ (sigU_shl a) hub (by omega) W) rfl (wrap64_of (by omega) (by omega)) (wrap64_of (by omega) (by omega)) (fun W => round_any _ _ _ _ m hqu hq hm (by omega) (by omega) W) (nef (n := 0) h5) (nef (n := 3) h3) (nef (n := 0) h6) (nef (n := 3) h4) w
end Go.Proofs.YtldmbneckcjonabDoor
