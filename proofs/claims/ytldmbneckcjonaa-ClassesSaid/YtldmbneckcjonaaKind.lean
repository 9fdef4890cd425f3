/- What the functions kindOf and Class of soft, and parts, kind and Class of softfloatref answer: for every uint64. -/
import Derived.Test.YtldmbneckcjonaaChecked
import Derived.Test.YtldmbneckcjonaaArith
import Derived.WalkSpells
import Derived.WalkLawsBesides
namespace Go.Proofs.Ytldmbneckcjonaa
open Go.RowKit
attribute [local go_sem] and_2047 and_f
set_option maxRecDepth 100000 in
set_option maxHeartbeats 400000 in
theorem kindOf_any (x : Nat) (w : World) :
    Calls Try.prog 6 #[.int .u64 x] w fun e w' => e = .returned (.int .i64 (kindN x)) ∧ w = w' := by
  go_enter Try.func6, Try.ntmps6
  go_wp2
  all_goals go_ret
  all_goals (refine ⟨ret_int ?_, rfl⟩; simp only [IntKind.wrap_u64, beq_iff_eq, beq_eq_false_iff_ne, ne_eq] at *; unfold kindN; repeat' split)
  all_goals omega
set_option maxRecDepth 100000 in
set_option maxHeartbeats 400000 in
theorem Class_any (x : Nat) (hx : U64 x) (w : World) :
    Calls Try.prog 4 #[.int .u64 x] w fun e w' => e = .returned (.int .i64 (classN x)) ∧ w = w' := by
  go_enter Try.func4, Try.ntmps4
  go_wp2_with (go_at_call 6; refine (kindOf_any _ _).mono ?_; rintro e w' ⟨rfl, rfl⟩)
  go_ret
  refine ⟨ret_int ?_, rfl⟩
  have hk := kindN_lt x
  have hx := hx.out
  simp only [wrap64]; unfold classN; omega
set_option maxRecDepth 100000 in
set_option maxHeartbeats 400000 in
theorem parts_any (x : Nat) (hx : U64 x) (w : World) :
    Calls Try.prog 8 #[.int .u64 x] w fun e w' => e = .returned (.tuple #[.int .i64 (sgnI x), .int .i64 (expI x), .int .i64 (fracI x)]) ∧ w = w' := by
  go_enter Try.func8, Try.ntmps8
  go_wp2
  go_ret3
  refine ⟨?_, rfl⟩
  have hx := hx.out
  exact ret3_int (by simp only [wrap64, sgnI]; omega) (by simp only [expI]) (by simp only [fracI])
set_option maxRecDepth 100000 in
set_option maxHeartbeats 400000 in
theorem kind_any (x : Nat) (hx : U64 x) (w : World) :
    Calls Try.prog 7 #[.int .u64 x] w fun e w' => e = .returned (.int .i64 (kindN x)) ∧ w = w' := by
  go_enter Try.func7, Try.ntmps7
  go_wp2_with (go_at_call 8; refine (parts_any _ hx _).mono ?_; rintro e w' ⟨rfl, rfl⟩)
  all_goals go_ret
  all_goals (refine ⟨ret_int ?_, rfl⟩; simp only [beq_iff_eq, beq_eq_false_iff_ne, ne_eq] at *; simp only [expI, fracI] at *; unfold kindN; repeat' split)
  all_goals omega
set_option maxRecDepth 100000 in
set_option maxHeartbeats 400000 in
theorem refClass_any (x : Nat) (hx : U64 x) (w : World) :
    Calls Try.prog 5 #[.int .u64 x] w fun e w' => e = .returned (.int .i64 (classN x)) ∧ w = w' := by
  go_enter Try.func5, Try.ntmps5
  go_wp2_with (go_at_call 7; refine (kind_any _ hx _).mono ?_; rintro e w' ⟨rfl, rfl⟩)
  all_goals go_ret
  all_goals (refine ⟨ret_int ?_, rfl⟩; have hk := kindN_lt x; have hx := hx.out; unfold classN; try simp only [beq_iff_eq, beq_eq_false_iff_ne, ne_eq] at *; try simp only [wrap64])
  all_goals omega
end Go.Proofs.Ytldmbneckcjonaa
