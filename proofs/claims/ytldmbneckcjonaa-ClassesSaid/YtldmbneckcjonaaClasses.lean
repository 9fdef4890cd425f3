/- What the law Classes answers: true, of every script, whose numbers' cells are known. -/
import Derived.Test.YtldmbneckcjonaaKind
namespace Go.Proofs.Ytldmbneckcjonaa
open Go.RowKit
/-- The operand A of each step's record is a uint64. -/
def StepsA (w : World) (A : Option Addr) (len : Nat) : Prop := ∀ i, i < len → ∃ a x, A = some a ∧ w.cell? ⟨(a.add (i * 8)).block, (a.add (i * 8)).off + 2 + 2, none⟩ = some (.int .u64 ((x : Nat) : Int)) ∧ U64 x
attribute [local go_sem] few_yes few_no
set_option maxRecDepth 100000 in
set_option maxHeartbeats 400000 in
theorem Classes_any (A : Option Addr) (len cap : Nat) (hl : len ≤ maxLen) (w : World) (hc : StepsA w A len) :
    Calls Try.prog 3 #[.slice A len cap] w fun e w' => e = .returned (.bool true) ∧ w = w' := by
  unfold maxLen at hl
  go_enter Try.func3, Try.ntmps3
  go_wp2
  go_loop [2, 3, 4, 5] (fun _ i _ _ => ∃ k : Nat, k ≤ len ∧ i = .int .i64 k) (fun _ i _ _ => len - (intOf i).toNat)
  case atStart => exact ⟨0, Nat.zero_le _, rfl⟩
  case round =>
    obtain ⟨k, hk, rfl⟩ := hrel
    by_cases hlt : k < len
    · obtain ⟨a, x, rfl, hx, hu⟩ := hc k hlt
      rcases few_or k with h60 | h60
      · go_wp2_with (first | (go_at_call 4; refine (Class_any _ hu _).mono ?_; rintro e w' ⟨rfl, rfl⟩) | (go_at_call 5; refine (refClass_any _ hu _).mono ?_; rintro e w' ⟨rfl, rfl⟩))
        go_round
        case rel => exact ⟨k + 1, by omega, by go_num⟩
        case measure => simp [intOf]; omega
      · go_wp2
        go_ret
        exact ⟨rfl, rfl⟩
    · go_wp2
      go_ret
      exact ⟨rfl, rfl⟩
end Go.Proofs.Ytldmbneckcjonaa
