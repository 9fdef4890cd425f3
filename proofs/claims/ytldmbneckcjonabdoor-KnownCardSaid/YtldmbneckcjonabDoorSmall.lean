/- Small things: what a call keeps of the cells; a result of the reference as a value. -/
import Derived.WalkKit
import Derived.Below
namespace Go.Proofs.YtldmbneckcjonabDoor
open Go.RowKit
theorem bcell1 {W w1 : World} (hb : Below W.heap.size W w1) : (∀ b o, b < W.heap.size → w1.cell? ⟨b, o, none⟩ = W.cell? ⟨b, o, none⟩) ∧ (∀ b o, b < W.heap.size → w1.frozen? ⟨b, o, none⟩ = W.frozen? ⟨b, o, none⟩) :=
  ⟨fun _ _ h => hb.cell (p := ⟨_, _, none⟩) h, fun _ _ h => hb.frozen (p := ⟨_, _, none⟩) h⟩
/-- A result of the reference, as a value. -/
abbrev RV (b f : Nat) (bad : Bool) : Value := .agg #[.int .u64 b, .int .i64 f, .bool bad]
theorem cell_below {W w1 : World} {p : Addr} {v : Value} (h : Below W.heap.size W w1) (hc : W.cell? p = some v) : w1.cell? p = some v := by
  rw [h.cell (World.block_lt_of_cell? _ _ hc)]; exact hc
theorem frozen_below {W w1 : World} {p : Addr} {v : Value} (h : Below W.heap.size W w1) (hc : W.cell? p = some v) (hf : W.frozen? p = false) : w1.frozen? p = false := by
  rw [h.frozen (World.block_lt_of_cell? _ _ hc)]; exact hf
end Go.Proofs.YtldmbneckcjonabDoor
