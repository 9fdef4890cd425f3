/- What the functions kindOf and Class of soft, and parts, kind and Class of softfloatref answer: for every uint64. -/
import Derived.Test.YtldmbneckcjonaaDoorChecked
import Derived.Test.YtldmbneckcjonaaDoorArith
import Derived.WalkSpells
import Derived.WalkLawsBesides
namespace Go.Proofs.YtldmbneckcjonaaDoor
open Go.RowKit
attribute [local go_sem] and_2047 and_f
set_option maxRecDepth 100000 in
set_option maxHeartbeats 400000 in
theorem kindOf_any (x : Nat) (w : World) :
    Calls Tryd.prog 42 #[.int .u64 x] w fun e w' => e = .returned (.int .i64 (kindN x)) ∧ w = w' := by
  go_enter Tryd.func42, Tryd.ntmps42
  go_wp2
  all_goals go_ret
  all_goals (refine ⟨ret_int ?_, rfl⟩; simp only [IntKind.wrap_u64, beq_iff_eq, beq_eq_false_iff_ne, ne_eq] at *; unfold kindN; repeat' split)
  all_goals omega
set_option maxRecDepth 100000 in
set_option maxHeartbeats 400000 in
theorem Class_any (x : Nat) (hx : U64 x) (w : World) :
    Calls Tryd.prog 27 #[.int .u64 x] w fun e w' => e = .returned (.int .i64 (classN x)) ∧ w = w' := by
  go_enter Tryd.func27, Tryd.ntmps27
  go_wp2_with (go_at_call 42; refine (kindOf_any _ _).mono ?_; rintro e w' ⟨rfl, rfl⟩)
  go_ret
  refine ⟨ret_int ?_, rfl⟩
  have hk := kindN_lt x
  have hx := hx.out
  simp only [wrap64]; unfold classN; omega
set_option maxRecDepth 100000 in
set_option maxHeartbeats 400000 in
theorem parts_any (x : Nat) (hx : U64 x) (w : World) :
    Calls Tryd.prog 60 #[.int .u64 x] w fun e w' => e = .returned (.tuple #[.int .i64 (sgnI x), .int .i64 (expI x), .int .i64 (fracI x)]) ∧ w = w' := by
  go_enter Tryd.func60, Tryd.ntmps60
  go_wp2
  go_ret3
  refine ⟨?_, rfl⟩
  have hx := hx.out
  exact ret3_int (by simp only [wrap64, sgnI]; omega) (by simp only [expI]) (by simp only [fracI])
set_option maxRecDepth 100000 in
set_option maxHeartbeats 400000 in
theorem kind_any (x : Nat) (hx : U64 x) (w : World) :
    Calls Tryd.prog 43 #[.int .u64 x] w fun e w' => e = .returned (.int .i64 (kindN x)) ∧ w = w' := by
  go_enter Tryd.func43, Tryd.ntmps43
  go_wp2_with (go_at_call 60; refine (parts_any _ hx _).mono ?_; rintro e w' ⟨rfl, rfl⟩)
  all_goals go_ret
  all_goals (refine ⟨ret_int ?_, rfl⟩; simp only [beq_iff_eq, beq_eq_false_iff_ne, ne_eq] at *; simp only [expI, fracI] at *; unfold kindN; repeat' split)
  all_goals omega
set_option maxRecDepth 100000 in
set_option maxHeartbeats 400000 in
theorem refClass_any (x : Nat) (hx : U64 x) (w : World) :
    Calls Tryd.prog 28 #[.int .u64 x] w fun e w' => e = .returned (.int .i64 (classN x)) ∧ w = w' := by
  go_enter Tryd.func28, Tryd.ntmps28
  go_wp2_with (go_at_call 43; refine (kind_any _ hx _).mono ?_; rintro e w' ⟨rfl, rfl⟩)
  all_goals go_ret
  all_goals (refine ⟨ret_int ?_, rfl⟩; have hk := kindN_lt x; have hx := hx.out; unfold classN; try simp only [beq_iff_eq, beq_eq_false_iff_ne, ne_eq] at *; try simp only [wrap64])
  all_goals omega
end Go.Proofs.YtldmbneckcjonaaDoor
