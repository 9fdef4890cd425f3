/- Plain: what a NaN decides. No program in sight; each lemma states its own conditions. -/
import Derived.Test.YtldmbneckcjonaaDoorTwo
namespace Go.Proofs.YtldmbneckcjonaaDoor
/-- The i-th of three. -/
def opnd (a b c i : Nat) : Nat := if i = 0 then a else if i = 1 then b else c
/-- Of the first i: is there a NaN? -/
def nanS (a b c : Nat) : Nat → Bool
  | 0 => false
  | i + 1 => nanS a b c i || decide (4 ≤ kindN (opnd a b c i))
/-- The first one, made quiet. -/
def nanB (a b c : Nat) : Nat → Nat
  | 0 => 0
  | i + 1 => if nanS a b c i = false ∧ 4 ≤ kindN (opnd a b c i) then quietN (opnd a b c i) else nanB a b c i
/-- The flags. -/
def nanF (a b c : Nat) : Nat → Nat
  | 0 => 0
  | i + 1 => if kindN (opnd a b c i) = 5 then 16 else nanF a b c i
theorem nanF_or (a b c : Nat) : ∀ i, nanF a b c i = 0 ∨ nanF a b c i = 16
  | 0 => .inl rfl
  | i + 1 => by unfold nanF; split; exact .inr rfl; exact nanF_or a b c i
theorem nanS_no {a b c : Nat} : ∀ {i}, nanS a b c i = false → nanB a b c i = 0 ∧ nanF a b c i = 0
  | 0, _ => ⟨rfl, rfl⟩
  | i + 1, h => by
    unfold nanS at h
    rw [Bool.or_eq_false_iff, decide_eq_false_iff_not] at h
    obtain ⟨h1, h2⟩ := h
    have := nanS_no (i := i) h1
    unfold nanB nanF
    rw [if_neg (by omega), if_neg (by omega)]
    exact this
/-- Whether a NaN decides it; the bits; the flags. -/
@[irreducible] def nanR (op a b c n : Nat) : Bool × Nat × Nat :=
  if nanS a b c n = false then (false, 0, 0)
  else if op = 5 ∧ kindN c = 4 ∧ ((kindN a = 0 ∧ kindN b = 3) ∨ (kindN a = 3 ∧ kindN b = 0)) then (true, 9221120237041090560, 16)
  else if op = 9 ∧ nanF a b c n = 0 ∧ (kindN a = 3 ∨ kindN b = 3) then (true, 9218868437227405312, 0)
  else (true, nanB a b c n, nanF a b c n)
theorem nanR_no {op a b c n : Nat} (h : nanS a b c n = false) : nanR op a b c n = (false, 0, 0) := by unfold nanR; rw [if_pos h]
theorem nanR_some {op a b c n : Nat} (h : nanS a b c n = true) : (nanR op a b c n).1 = true := by
  unfold nanR; rw [if_neg (by rw [h]; decide)]; split; rfl; split; rfl; rfl
/-- Operands that matter. -/
def nOps (op : Nat) : Nat := if op = 5 then 3 else if op = 6 ∨ op = 7 ∨ op = 8 then 1 else if op = 10 then 0 else 2
theorem nOps_le (op : Nat) : nOps op ≤ 3 := by unfold nOps; split; omega; split; omega; split <;> omega
theorem opnd_u {a b c i : Nat} (ua : U64 a) (ub : U64 b) (uc : U64 c) : U64 (opnd a b c i) := by unfold opnd; split; exact ua; split; exact ub; exact uc
end Go.Proofs.YtldmbneckcjonaaDoor
