/- Equality of two kinds at once, as a law of the operation; a number with its quiet bit set. -/
import Derived.Test.YtldmbneckcjonaaDoorKind
import Derived.Test.YtldmbneckcjonaaDoorXorOr
namespace Go.Proofs.YtldmbneckcjonaaDoor
open Go.RowKit
theorem two_run_d (d : Nat) (x0 x1 y0 y1 : Int) (w : World) :
    (Op.equalIn (d + 2) 113 (.agg #[.int .i64 x0, .int .i64 x1]) (.agg #[.int .i64 y0, .int .i64 y1])).run Tryd.prog w =
      .ok (x0 == y0 && x1 == y1) w := by
  have hu := Tryd.underlying113
  have hs : (sizeOf 84).run Tryd.prog w = .ok 1 w := by kernel_rfl
  have h64 : ∀ (a b : Int), (Op.equalIn (d + 1) 84 (.int .i64 a) (.int .i64 b)).run Tryd.prog w = .ok (a == b) w := fun a b => run_equalIn_int w d 84 .i64 .i64 a b Tryd.underlying84
  have p0 : ∀ a b : Int, (part 84 #[.int .i64 a, .int .i64 b] 0).run Tryd.prog w = .ok (.int .i64 a) w := fun _ _ => by kernel_rfl
  have p1 : ∀ a b : Int, (part 84 #[.int .i64 a, .int .i64 b] 1).run Tryd.prog w = .ok (.int .i64 b) w := fun _ _ => by kernel_rfl
  rw [Op.equalIn]
  simp only [Sem.run_bind, run_underlying hu, Result.andThen_ok, hs]
  by_cases h0 : x0 = y0 <;> by_cases h1 : x1 = y1 <;>
    simp [h64, p0, p1, Std.Legacy.Range.forIn_eq_forIn_range', Std.Legacy.Range.size, List.range', h0, h1]
theorem two_run (x0 x1 y0 y1 : Int) (w : World) :
    (Op.equalIn 10000 113 (.agg #[.int .i64 x0, .int .i64 x1]) (.agg #[.int .i64 y0, .int .i64 y1])).run Tryd.prog w =
      .ok (x0 == y0 && x1 == y1) w := two_run_d 9998 x0 x1 y0 y1 w
/-- A NaN made quiet. -/
@[irreducible] def quietN (x : Nat) : Nat := x ||| 2251799813685248
theorem quiet_or {x : Nat} (h : U64 x) : bits .or .u64 (x : Int) 2251799813685248 = (quietN x : Nat) := by
  have := u64_or_nat x 2251799813685248 h (by omega)
  unfold quietN
  exact this
end Go.Proofs.YtldmbneckcjonaaDoor
