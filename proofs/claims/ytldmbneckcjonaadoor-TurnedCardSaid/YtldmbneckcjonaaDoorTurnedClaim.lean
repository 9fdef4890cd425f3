/- Several texts in one: softfloatlaw: minus, other. · Plain: numbers of the other sign. No program in sight; each lemma states its own conditions. · softfloatlaw.lives, turned. · softfloatlaw.lives and turned, whole. · The law Turned. · Turned: for every script the law returns true and leaves its argument as it was. Condition: the table of operations is as the program's text lays it, which the card's tie shows. -/
import Derived.Deep.RegionHeld3
import Derived.Deep.Cut
import Derived.Deep.QuietTactic
import Derived.BigQuiet
import Derived.Test.YtldmbneckcjonaaDoorGY
import Derived.Test.YtldmbneckcjonaaDoorGL
import Derived.Test.YtldmbneckcjonaaDoorGS
import Derived.Test.YtldmbneckcjonaaDoorGM
import Derived.Test.YtldmbneckcjonaaDoorGJ
import Derived.Test.YtldmbneckcjonaaDoorCards
set_option linter.unusedVariables false
set_option linter.unusedSimpArgs false
namespace Go.Proofs.YtldmbneckcjonaaDoor
open Go.RowKit
def othN (m : Nat) : Nat := if m = 3 then 4 else if m = 4 then 3 else m
set_option maxRecDepth 100000 in
set_option maxHeartbeats 400000 in
theorem minus_any (b : Nat) (ub : U64 b) (w : World) : Calls Tryd.prog 33 #[.int .u64 b] w fun e w' => e = .returned (.int .u64 (turnN b)) ∧ w = w' := by
  have h := turn_xor ub
  clear ub
  go_enter Tryd.func33, Tryd.ntmps33
  go_wp2_with fail
  go_ret
  exact ⟨rfl, rfl⟩
set_option maxRecDepth 100000 in
set_option maxHeartbeats 400000 in
theorem other_3 (w : World) : Calls Tryd.prog 34 #[.int .u8 3] w fun e w' => e = .returned (.int .u8 4) ∧ w = w' := by
  go_enter Tryd.func34, Tryd.ntmps34
  go_wp2_with fail
  go_ret
  exact ⟨rfl, rfl⟩
set_option maxRecDepth 100000 in
set_option maxHeartbeats 400000 in
theorem other_4 (w : World) : Calls Tryd.prog 34 #[.int .u8 4] w fun e w' => e = .returned (.int .u8 3) ∧ w = w' := by
  go_enter Tryd.func34, Tryd.ntmps34
  go_wp2_with fail
  go_ret
  exact ⟨rfl, rfl⟩
set_option maxRecDepth 100000 in
set_option maxHeartbeats 400000 in
theorem other_o (m : Nat) (h3 : ((m : Int) == 3) = false) (h4 : ((m : Int) == 4) = false) (w : World) : Calls Tryd.prog 34 #[.int .u8 m] w fun e w' => e = .returned (.int .u8 m) ∧ w = w' := by
  go_enter Tryd.func34, Tryd.ntmps34
  go_wp2_with fail
  go_ret
  exact ⟨rfl, rfl⟩
theorem other_any (m : Nat) (w : World) : Calls Tryd.prog 34 #[.int .u8 m] w fun e w' => e = .returned (.int .u8 (othN m)) ∧ w = w' := by
  by_cases h3 : m = 3
  · subst h3; exact other_3 w
  · by_cases h4 : m = 4
    · subst h4; exact other_4 w
    · have e : othN m = m := by unfold othN; rw [if_neg h3, if_neg h4]
      rw [e]; exact other_o m (nef (n := 3) h3) (nef (n := 4) h4) w
end Go.Proofs.YtldmbneckcjonaaDoor
namespace Go.Proofs.YtldmbneckcjonaaDoor
open Go.RowKit
theorem turn_turn (a : Nat) : turnN (turnN a) = a := by unfold turnN; rw [Nat.xor_assoc, Nat.xor_self, Nat.xor_zero]
theorem turn_cases {a : Nat} (ua : U64 a) : (negU a = false ∧ turnN a = a + 9223372036854775808) ∨ (negU a = true ∧ 9223372036854775808 ≤ a ∧ turnN a = a - 9223372036854775808) := by
  have hu := turn_u ua
  have hu0 := ua.out
  have hu1 := hu.out
  have hm : a % 9223372036854775808 = turnN a % 9223372036854775808 := by
    unfold turnN
    have h := Nat.xor_mod_two_pow (a := a) (b := 9223372036854775808) (n := 63)
    rw [show (2 : Nat) ^ 63 = 9223372036854775808 from by decide, Nat.mod_self, Nat.xor_zero] at h
    exact h.symm
  have hb : turnN a ≠ a := fun h => by
    have h1 : (turnN a).testBit 63 = !(a.testBit 63) := by
      unfold turnN
      rw [Nat.testBit_xor, show (9223372036854775808 : Nat).testBit 63 = true from by decide]
      cases a.testBit 63 <;> rfl
    rw [h] at h1
    cases a.testBit 63 <;> simp at h1
  unfold negU
  by_cases h : a / 9223372036854775808 = 1
  · right; rw [decide_eq_true h]; exact ⟨rfl, by omega, by omega⟩
  · left; rw [decide_eq_false h]; exact ⟨rfl, by omega⟩
theorem neg_turn {a : Nat} (ua : U64 a) : negU (turnN a) = !negU a := by
  have hu := ua.out
  rcases turn_cases ua with ⟨h1, h2⟩ | ⟨h1, h2, h3⟩
  · rw [h1]; unfold negU at h1 ⊢; rw [h2]; exact decide_eq_true (by have := of_decide_eq_false h1; omega)
  · rw [h1]; unfold negU at h1 ⊢; rw [h3]; exact decide_eq_false (by omega)
theorem parts_turn {a : Nat} (ua : U64 a) : expF (turnN a) = expF a ∧ sigF (turnN a) = sigF a := by
  unfold expF sigF
  rcases turn_cases ua with ⟨h1, h2⟩ | ⟨h1, h2, h3⟩
  · rw [h2]; omega
  · rw [h3]; omega
theorem ex_turn {a : Nat} (ua : U64 a) : exN (turnN a) = exN a ∧ exE (turnN a) = exE a := by
  obtain ⟨h1, h2⟩ := parts_turn ua
  unfold exN exE; rw [h1, h2]; exact ⟨rfl, rfl⟩
theorem turn_sign (g : Bool) {M : Nat} (h : M < 9223372036854775808) : turnN (signN (!g) + M) = signN g + M := by
  have u : U64 (signN (!g) + M) := by unfold U64 signN; cases g <;> simp <;> omega
  have hs : signN true = 9223372036854775808 := rfl
  have hs2 : signN false = 0 := rfl
  rcases turn_cases u with ⟨h1, h2⟩ | ⟨h1, h2, h3⟩
  · rw [h2]; cases g
    · rw [Bool.not_false, hs] at h1 ⊢; unfold negU at h1; have := of_decide_eq_false h1; omega
    · rw [Bool.not_true, hs2, hs]; omega
  · rw [h3]; cases g
    · rw [Bool.not_false, hs, hs2]; omega
    · rw [Bool.not_true, hs2] at h2; omega
/-- What the results of a number and of the other one have to be. -/
def Tn (x y : Nat × Nat) : Prop := x.2 = y.2 ∧ (nanQ x.1 = true ∨ turnN y.1 = x.1 ∨ (x.1 * 2 % 18446744073709551616 = 0 ∧ y.1 * 2 % 18446744073709551616 = 0))
theorem nanQ_plain : nanQ 9221120237041090560 = true := by unfold nanQ; decide
theorem upB_turn {m : Nat} (g o h b : Bool) : upB (othN m) (!g) o h b = upB m g o h b := by
  unfold upB othN
  by_cases h3 : m = 3
  · subst h3; simp
  · by_cases h4 : m = 4
    · subst h4; simp
    · rw [if_neg h3, if_neg h4]; by_cases h0 : m = 0
      · subst h0; rfl
      · by_cases h1 : m = 1
        · subst h1; rfl
        · rw [if_neg h0, if_neg h0, if_neg h1, if_neg h1, if_neg h3, if_neg h3, if_neg h4, if_neg h4]
theorem cutS_turn {m n : Nat} {g l : Bool} {K : Int} : cutS (othN m) (!g) n l K = cutS m g n l K := by
  unfold cutS; rw [upB_turn]
theorem big_turn {m : Nat} {g : Bool} : (othN m = 2 ∨ (othN m = 3 ∧ (!g) = true) ∨ (othN m = 4 ∧ (!g) = false)) ↔ (m = 2 ∨ (m = 3 ∧ g = true) ∨ (m = 4 ∧ g = false)) := by
  unfold othN
  by_cases h3 : m = 3
  · subst h3; cases g <;> simp
  · by_cases h4 : m = 4
    · subst h4; cases g <;> simp
    · rw [if_neg h3, if_neg h4]; simp [h3, h4]
theorem roundS_turn {m n : Nat} {g l : Bool} {e : Int} : ∃ M f, roundS m g n l e = (signN g + M, f) ∧ roundS (othN m) (!g) n l e = (signN (!g) + M, f) := by
  have ht : topS (othN m) (!g) n l e = topS m g n l e := by unfold topS; rw [cutS_turn]
  unfold roundS
  rw [ht, cutS_turn, cutS_turn]
  by_cases h1 : 1024 ≤ topS m g n l e
  · rw [if_pos h1, if_pos h1]
    by_cases hb : (m = 2 ∨ (m = 3 ∧ g = true) ∨ (m = 4 ∧ g = false))
    · rw [if_pos hb, if_pos (big_turn.2 hb)]; exact ⟨_, _, rfl, rfl⟩
    · rw [if_neg hb, if_neg (mt big_turn.1 hb)]; exact ⟨_, _, rfl, rfl⟩
  · rw [if_neg h1, if_neg h1]
    by_cases h2 : topS m g n l e < -1022
    · rw [if_pos h2, if_pos h2]; exact ⟨_, _, rfl, rfl⟩
    · rw [if_neg h2, if_neg h2, Nat.add_assoc, Nat.add_assoc]; exact ⟨_, _, rfl, rfl⟩
theorem roundS_Mn {m n : Nat} {g l : Bool} {e : Int} (h0 : n ≠ 0) (hl : l = true → 54 ≤ bl n) : (roundS m g n l e).2 = (roundS (othN m) (!g) n l e).2 ∧ turnN (roundS (othN m) (!g) n l e).1 = (roundS m g n l e).1 := by
  obtain ⟨M, f, h1, h2⟩ := roundS_turn (m := m) (n := n) (g := g) (l := l) (e := e)
  obtain ⟨T, X, hT, hN⟩ := round_near (ng := g) (e := e) h0 hl
  obtain ⟨u, f', h3, _, _⟩ := hN m
  have h3 : roundS m g n l e = (signN g + (T + (if u then 1 else 0)), f') := h3
  have hM : M < 9223372036854775808 := by
    rw [h1] at h3
    have := congrArg Prod.fst h3
    have h4 : signN g + M = signN g + (T + (if u then 1 else 0)) := this
    have : (if u then 1 else 0) ≤ 1 := by split <;> omega
    omega
  rw [h1, h2]
  exact ⟨rfl, turn_sign g hM⟩
theorem roundS_Tn {m n : Nat} {g l : Bool} {e : Int} (h0 : n ≠ 0) (hl : l = true → 54 ≤ bl n) : Tn (roundS m g n l e) (roundS (othN m) (!g) n l e) := by
  obtain ⟨h1, h2⟩ := roundS_Mn (m := m) (g := g) (e := e) h0 hl
  exact ⟨h1, .inr (.inl h2)⟩
theorem addedV_Tn {m a b : Nat} {n1 n2 : Bool} : Tn (addedV m n1 n2 a b) (addedV (othN m) (!n1) (!n2) a b) := by
  have hs : (sumV (!n1) (!n2) a b) = (!(sumV n1 n2 a b).1, (sumV n1 n2 a b).2) := by
    unfold sumV
    by_cases h : n1 = n2
    · rw [if_pos h, if_pos (by rw [h])]
    · rw [if_neg h, if_neg (fun h2 => h (by revert h2; cases n1 <;> cases n2 <;> simp))]
      by_cases h3 : a < b
      · rw [if_pos h3, if_pos h3]
      · rw [if_neg h3, if_neg h3]
  unfold addedV
  rw [hs]
  by_cases h : (sumV n1 n2 a b).2 ≠ 0
  · rw [if_pos h, if_pos h]; exact roundS_Tn h (fun h => absurd h (by decide))
  · rw [if_neg h, if_neg h]
    have z : ∀ g, signN g * 2 % 18446744073709551616 = 0 := fun g => by cases g <;> rfl
    by_cases h2 : a = 0 ∧ b = 0 ∧ n1 = n2
    · rw [if_pos h2, if_pos ⟨h2.1, h2.2.1, by rw [h2.2.2]⟩]; exact ⟨rfl, .inr (.inr ⟨z _, z _⟩)⟩
    · rw [if_neg h2, if_neg (fun h3 => h2 ⟨h3.1, h3.2.1, by revert h3; cases n1 <;> cases n2 <;> simp⟩)]; exact ⟨rfl, .inr (.inr ⟨z _, z _⟩)⟩
theorem addS_Tn {m a b : Nat} (ua : U64 a) (ub : U64 b) : Tn (addS m a b) (addS (othN m) (turnN a) (turnN b)) := by
  have ka := kind_turn ua
  have kb := kind_turn ub
  obtain ⟨xa, ya⟩ := ex_turn ua
  obtain ⟨xb, yb⟩ := ex_turn ub
  unfold addS
  rw [ka, kb, neg_turn ua, neg_turn ub, xa, ya, xb, yb]
  have hne : turnN a ≠ turnN b ↔ a ≠ b := not_congr ⟨fun h => by have := congrArg turnN h; rwa [turn_turn, turn_turn] at this, fun h => by rw [h]⟩
  by_cases h1 : kindN a = 3 ∧ kindN b = 3 ∧ a ≠ b
  · rw [if_pos h1, if_pos ⟨h1.1, h1.2.1, hne.2 h1.2.2⟩]; exact ⟨rfl, .inl nanQ_plain⟩
  · have h1' : ¬ (kindN a = 3 ∧ kindN b = 3 ∧ turnN a ≠ turnN b) := fun h => h1 ⟨h.1, h.2.1, hne.1 h.2.2⟩
    rw [if_neg h1, if_neg h1']
    by_cases h2 : kindN a = 3
    · rw [if_pos h2, if_pos h2]; exact ⟨rfl, .inr (.inl (turn_turn a))⟩
    · rw [if_neg h2, if_neg h2]
      by_cases h3 : kindN b = 3
      · rw [if_pos h3, if_pos h3]; exact ⟨rfl, .inr (.inl (turn_turn b))⟩
      · rw [if_neg h3, if_neg h3]; exact addedV_Tn
theorem addedV_comm {m a b : Nat} {n1 n2 : Bool} : addedV m n2 n1 b a = addedV m n1 n2 a b := by
  obtain ⟨h1, h2⟩ := sumV_comm (n1 := n1) (n2 := n2) (a := a) (b := b)
  unfold addedV
  by_cases h : (sumV n1 n2 a b).2 ≠ 0
  · rw [if_pos h, if_pos (by rw [← h1]; exact h), h2 h, h1]
  · rw [if_neg h, if_neg (by rw [← h1]; exact h)]
    by_cases h3 : a = 0 ∧ b = 0 ∧ n1 = n2
    · rw [if_pos h3, if_pos ⟨h3.2.1, h3.1, h3.2.2.symm⟩, h3.2.2]
    · rw [if_neg h3, if_neg (fun h4 => h3 ⟨h4.2.1, h4.1, h4.2.2.symm⟩)]
theorem addS_comm {m a b : Nat} : addS m b a = addS m a b := by
  unfold addS
  by_cases h1 : kindN a = 3 ∧ kindN b = 3 ∧ a ≠ b
  · rw [if_pos h1, if_pos ⟨h1.2.1, h1.1, fun h => h1.2.2 h.symm⟩]
  · rw [if_neg h1, if_neg (fun h => h1 ⟨h.2.1, h.1, fun e => h.2.2 e.symm⟩)]
    by_cases h2 : kindN a = 3
    · by_cases h3 : kindN b = 3
      · have : a = b := Classical.byContradiction fun h => h1 ⟨h2, h3, h⟩
        rw [if_pos h3, if_pos h2, this]
      · rw [if_neg h3, if_pos h2, if_pos h2]
    · by_cases h3 : kindN b = 3
      · rw [if_pos h3, if_neg h2, if_pos h3]
      · rw [if_neg h3, if_neg h2, if_neg h2, if_neg h3]; exact addedV_comm
theorem mulS_comm {m a b : Nat} : mulS m b a = mulS m a b := by
  have hx : (negU b != negU a) = (negU a != negU b) := by cases negU a <;> cases negU b <;> rfl
  unfold mulS
  rw [hx, Nat.mul_comm (exN b), Int.add_comm (exE b)]
  by_cases h1 : (kindN a = 3 ∧ kindN b = 0) ∨ (kindN a = 0 ∧ kindN b = 3)
  · rw [if_pos h1, if_pos (by omega)]
  · rw [if_neg h1, if_neg (by omega)]
    by_cases h2 : kindN a = 3 ∨ kindN b = 3
    · rw [if_pos h2, if_pos (by omega)]
    · rw [if_neg h2, if_neg (by omega)]
      by_cases h3 : kindN a = 0 ∨ kindN b = 0
      · rw [if_pos h3, if_pos (by omega)]
      · rw [if_neg h3, if_neg (by omega)]
theorem mulS_Mn {m a b : Nat} (ua : U64 a) : (mulS m a b).2 = (mulS (othN m) (turnN a) b).2 ∧ (nanQ (mulS m a b).1 = true ∨ turnN (mulS (othN m) (turnN a) b).1 = (mulS m a b).1) := by
  have ka := kind_turn ua
  obtain ⟨xa, ya⟩ := ex_turn ua
  have za := kind_zero (x := a)
  have zb := kind_zero (x := b)
  have hx : ((!negU a) != negU b) = !(negU a != negU b) := by cases negU a <;> cases negU b <;> rfl
  unfold mulS
  rw [ka, neg_turn ua, xa, ya, hx]
  by_cases h1 : (kindN a = 3 ∧ kindN b = 0) ∨ (kindN a = 0 ∧ kindN b = 3)
  · rw [if_pos h1, if_pos h1]; exact ⟨rfl, .inl nanQ_plain⟩
  · rw [if_neg h1, if_neg h1]
    by_cases h2 : kindN a = 3 ∨ kindN b = 3
    · rw [if_pos h2, if_pos h2]; exact ⟨rfl, .inr (turn_sign _ (by decide))⟩
    · rw [if_neg h2, if_neg h2]
      by_cases h3 : kindN a = 0 ∨ kindN b = 0
      · rw [if_pos h3, if_pos h3]; exact ⟨rfl, .inr (turn_sign _ (M := 0) (by decide))⟩
      · rw [if_neg h3, if_neg h3]
        obtain ⟨r1, r2⟩ := roundS_Mn (m := m) (g := (negU a != negU b)) (e := exE a + exE b) (n := exN a * exN b) (l := false) (by rw [Ne, Nat.mul_eq_zero]; omega) (fun h => absurd h (by decide))
        exact ⟨r1, .inr r2⟩
end Go.Proofs.YtldmbneckcjonaaDoor
namespace Go.Proofs.YtldmbneckcjonaaDoor
open Go.RowKit
def Z3 (W : World) (b : Nat) (c0 c1 c2 : Value) : Prop := (W.cell? ⟨b, 0, none⟩ = some c0 ∧ W.cell? ⟨b, 1, none⟩ = some c1 ∧ W.cell? ⟨b, 2, none⟩ = some c2) ∧ W.frozen? ⟨b, 0, none⟩ = false ∧ W.frozen? ⟨b, 1, none⟩ = false ∧ W.frozen? ⟨b, 2, none⟩ = false
theorem Z3.lt {W : World} {b : Nat} {c0 c1 c2 : Value} (h : Z3 W b c0 c1 c2) : b < W.heap.size := World.block_lt_of_cell? _ _ h.1.1
theorem Z3.call {W W1 : World} {b : Nat} {c0 c1 c2 : Value} (h : Z3 W b c0 c1 c2) (hb : Below W.heap.size W W1) : Z3 W1 b c0 c1 c2 := by
  have hl := h.lt
  obtain ⟨⟨h0, h1, h2⟩, f0, f1, f2⟩ := h
  exact ⟨⟨(hb.cell (p := ⟨b, 0, none⟩) hl).trans h0, (hb.cell (p := ⟨b, 1, none⟩) hl).trans h1, (hb.cell (p := ⟨b, 2, none⟩) hl).trans h2⟩, (hb.frozen (p := ⟨b, 0, none⟩) hl).trans f0, (hb.frozen (p := ⟨b, 1, none⟩) hl).trans f1, (hb.frozen (p := ⟨b, 2, none⟩) hl).trans f2⟩
theorem Z3.drew {W : World} {b : Nat} {c0 c1 c2 : Value} (h : Z3 W b c0 c1 c2) : Z3 W.drew b c0 c1 c2 := h
theorem Z3.new (W : World) (t : TypeId) {c0 c1 c2 : Value} : Z3 (W.alloc (.cells #[c0, c1, c2] t)) W.heap.size c0 c1 c2 := by
  refine ⟨⟨?_, ?_, ?_⟩, ?_, ?_, ?_⟩ <;> go_simp
theorem s2_put3 {w W : World} {B a b : Nat} (h : (W.cell? ⟨w.heap.size, 2, none⟩ = some (.int .u64 a) ∧ W.cell? ⟨w.heap.size, 3, none⟩ = some (.int .u64 b))) (h1 : B ≠ w.heap.size) (v0 v1 v2 : Value) : ((((W.setCell ⟨B, 0, none⟩ v0).setCell ⟨B, 1, none⟩ v1).setCell ⟨B, 2, none⟩ v2).cell? ⟨w.heap.size, 2, none⟩ = some (.int .u64 a) ∧ (((W.setCell ⟨B, 0, none⟩ v0).setCell ⟨B, 1, none⟩ v1).setCell ⟨B, 2, none⟩ v2).cell? ⟨w.heap.size, 3, none⟩ = some (.int .u64 b)) := by
  have k : ∀ (p : Addr) (v : Value), W.cell? p = some v → B ≠ p.block → (((W.setCell ⟨B, 0, none⟩ v0).setCell ⟨B, 1, none⟩ v1).setCell ⟨B, 2, none⟩ v2).cell? p = some v := fun p v hc hb => by
    have ne : ∀ i : Nat, (⟨B, i, none⟩ : Addr) ≠ p := fun i e => hb (by rw [← e])
    exact (World.cell?_setCell_other _ _ _ _ (ne 2)).trans ((World.cell?_setCell_other _ _ _ _ (ne 1)).trans ((World.cell?_setCell_other _ _ _ _ (ne 0)).trans hc))
  exact ⟨k _ _ h.1 h1, k _ _ h.2 h1⟩
set_option maxRecDepth 100000 in
set_option maxHeartbeats 4000000 in
theorem lives_walk (s1 s2 s3 s4 f1 f2 f3 f4 : Nat) (D1 : Hid (∀ W, TableAt W → Calls Tryd.prog 29 #[.agg #[.int .u8 1, .int .u8 0, .int .u64 4607182418800017408, .int .u64 4611686018427387904, .int .u64 0]] W (SoftOut s1 f1 false W)))
    (D2 : Hid (∀ W, TableAt W → Calls Tryd.prog 29 #[.agg #[.int .u8 1, .int .u8 0, .int .u64 4607182418800017408, .int .u64 4336966441157787648, .int .u64 0]] W (SoftOut s2 f2 false W)))
    (D3 : Hid (∀ W, TableAt W → Calls Tryd.prog 29 #[.agg #[.int .u8 1, .int .u8 3, .int .u64 4607182418800017408, .int .u64 4336966441157787648, .int .u64 0]] W (SoftOut s3 f3 false W)))
    (D4 : Hid (∀ W, TableAt W → Calls Tryd.prog 29 #[.agg #[.int .u8 3, .int .u8 0, .int .u64 4613937818241073152, .int .u64 4613937818241073152, .int .u64 0]] W (SoftOut s4 f4 false W)))
    (e1 : ((s1 : Int) == 4613937818241073152) = true) (k1 : ((f1 : Int) == 0) = true) (e2 : ((s2 : Int) == 4607182418800017408) = true) (k2 : ((f2 : Int) == 1) = true) (e3 : ((s3 : Int) == 4607182418800017409) = true) (k3 : ((f3 : Int) == 1) = true) (e4 : ((s4 : Int) == 4621256167635550208) = true) (k4 : ((f4 : Int) == 0) = true) (w : World) (hT : Hid (TableAt w)) : Calls Tryd.prog 17 #[] w fun e w' => e = .returned (.bool true) ∧ Below w.heap.size w w' := by
  have hE0 : Env w w.heap.size [] w := Env.nil (Below.refl _ _)
  go_enter Tryd.func17, Tryd.ntmps17
  go_upto_region 1 with (fail)
  go_cut [1] (fun s wx => ∃ g1 B : Nat, s = .pointer (some ⟨g1, 0, none⟩) ∧ Env w B ((g1, 0, .int .u64 s1) :: (g1, 1, .int .u8 f1) :: (g1, 2, .bool false) :: []) wx)
  case first =>
    have hz0 := hE0.size
    go_wp2_with fail
    refine (D1.out _ (hT.out.below (Nat.le_refl _) (Env.below (B := w.heap.size) (C := []) (by repeat' (first | with_reducible assumption | with_reducible refine Env.drew ?_ | with_reducible refine Env.drewN ?_ _ | with_reducible refine Env.alloc ?_ _ | with_reducible refine Env.put ?_ (by omega) _ _))))).mono ?_
    rintro e w1 ⟨rfl, hb1⟩
    have hE1 : Env w w.heap.size ([]) w1 := Env.call (by repeat' (first | with_reducible assumption | with_reducible refine Env.drew ?_ | with_reducible refine Env.drewN ?_ _ | with_reducible refine Env.alloc ?_ _ | with_reducible refine Env.put ?_ (by omega) _ _)) hb1
    have hz1 := hE1.size
    go_wp2_with fail
    go_meet
    refine ⟨_, _, rfl, Env.add3 (B := w.heap.size) (by repeat' (first | with_reducible assumption | with_reducible refine Env.drew ?_ | with_reducible refine Env.drewN ?_ _ | with_reducible refine Env.alloc ?_ _ | with_reducible refine Env.put ?_ (by omega) _ _)) ?_ ?_ ?_⟩ <;> (go_simp; done)
  case rest =>
    obtain ⟨g1, B1, rfl, hE1⟩ := hcut
    go_upto_region 2 with (fail)
    go_cut [2] (fun s wx => ∃ g2 B : Nat, s = .pointer (some ⟨g2, 0, none⟩) ∧ Env w B ((g2, 0, .int .u64 s2) :: (g2, 1, .int .u8 f2) :: (g2, 2, .bool false) :: (g1, 0, .int .u64 s1) :: (g1, 1, .int .u8 f1) :: (g1, 2, .bool false) :: []) wx)
    case first =>
      have hz0 := hE1.size
      go_wp2_with fail
      refine (D2.out _ (hT.out.below (Nat.le_refl _) (Env.below (B := B1) (C := (g1, 0, .int .u64 s1) :: (g1, 1, .int .u8 f1) :: (g1, 2, .bool false) :: []) (by repeat' (first | with_reducible assumption | with_reducible refine Env.drew ?_ | with_reducible refine Env.drewN ?_ _ | with_reducible refine Env.alloc ?_ _ | with_reducible refine Env.put ?_ (by omega) _ _))))).mono ?_
      rintro e w1 ⟨rfl, hb1⟩
      have hE1 : Env w B1 ((g1, 0, .int .u64 s1) :: (g1, 1, .int .u8 f1) :: (g1, 2, .bool false) :: []) w1 := Env.call (by repeat' (first | with_reducible assumption | with_reducible refine Env.drew ?_ | with_reducible refine Env.drewN ?_ _ | with_reducible refine Env.alloc ?_ _ | with_reducible refine Env.put ?_ (by omega) _ _)) hb1
      have hz1 := hE1.size
      go_wp2_with fail
      go_meet
      refine ⟨_, _, rfl, Env.add3 (B := B1) (by repeat' (first | with_reducible assumption | with_reducible refine Env.drew ?_ | with_reducible refine Env.drewN ?_ _ | with_reducible refine Env.alloc ?_ _ | with_reducible refine Env.put ?_ (by omega) _ _)) ?_ ?_ ?_⟩ <;> (go_simp; done)
    case rest =>
      obtain ⟨g2, B2, rfl, hE2⟩ := hcut
      clear hE1
      go_upto_region 3 with (fail)
      go_cut [3] (fun s wx => ∃ g3 B : Nat, s = .pointer (some ⟨g3, 0, none⟩) ∧ Env w B ((g3, 0, .int .u64 s3) :: (g3, 1, .int .u8 f3) :: (g3, 2, .bool false) :: (g2, 0, .int .u64 s2) :: (g2, 1, .int .u8 f2) :: (g2, 2, .bool false) :: (g1, 0, .int .u64 s1) :: (g1, 1, .int .u8 f1) :: (g1, 2, .bool false) :: []) wx)
      case first =>
        have hz0 := hE2.size
        go_wp2_with fail
        refine (D3.out _ (hT.out.below (Nat.le_refl _) (Env.below (B := B2) (C := (g2, 0, .int .u64 s2) :: (g2, 1, .int .u8 f2) :: (g2, 2, .bool false) :: (g1, 0, .int .u64 s1) :: (g1, 1, .int .u8 f1) :: (g1, 2, .bool false) :: []) (by repeat' (first | with_reducible assumption | with_reducible refine Env.drew ?_ | with_reducible refine Env.drewN ?_ _ | with_reducible refine Env.alloc ?_ _ | with_reducible refine Env.put ?_ (by omega) _ _))))).mono ?_
        rintro e w1 ⟨rfl, hb1⟩
        have hE1 : Env w B2 ((g2, 0, .int .u64 s2) :: (g2, 1, .int .u8 f2) :: (g2, 2, .bool false) :: (g1, 0, .int .u64 s1) :: (g1, 1, .int .u8 f1) :: (g1, 2, .bool false) :: []) w1 := Env.call (by repeat' (first | with_reducible assumption | with_reducible refine Env.drew ?_ | with_reducible refine Env.drewN ?_ _ | with_reducible refine Env.alloc ?_ _ | with_reducible refine Env.put ?_ (by omega) _ _)) hb1
        have hz1 := hE1.size
        go_wp2_with fail
        go_meet
        refine ⟨_, _, rfl, Env.add3 (B := B2) (by repeat' (first | with_reducible assumption | with_reducible refine Env.drew ?_ | with_reducible refine Env.drewN ?_ _ | with_reducible refine Env.alloc ?_ _ | with_reducible refine Env.put ?_ (by omega) _ _)) ?_ ?_ ?_⟩ <;> (go_simp; done)
      case rest =>
        obtain ⟨g3, B3, rfl, hE3⟩ := hcut
        clear hE2
        go_upto_region 4 with (fail)
        go_cut [4] (fun s wx => ∃ g4 B : Nat, s = .pointer (some ⟨g4, 0, none⟩) ∧ Env w B ((g4, 0, .int .u64 s4) :: (g4, 1, .int .u8 f4) :: (g4, 2, .bool false) :: (g3, 0, .int .u64 s3) :: (g3, 1, .int .u8 f3) :: (g3, 2, .bool false) :: (g2, 0, .int .u64 s2) :: (g2, 1, .int .u8 f2) :: (g2, 2, .bool false) :: (g1, 0, .int .u64 s1) :: (g1, 1, .int .u8 f1) :: (g1, 2, .bool false) :: []) wx)
        case first =>
          have hz0 := hE3.size
          go_wp2_with fail
          refine (D4.out _ (hT.out.below (Nat.le_refl _) (Env.below (B := B3) (C := (g3, 0, .int .u64 s3) :: (g3, 1, .int .u8 f3) :: (g3, 2, .bool false) :: (g2, 0, .int .u64 s2) :: (g2, 1, .int .u8 f2) :: (g2, 2, .bool false) :: (g1, 0, .int .u64 s1) :: (g1, 1, .int .u8 f1) :: (g1, 2, .bool false) :: []) (by repeat' (first | with_reducible assumption | with_reducible refine Env.drew ?_ | with_reducible refine Env.drewN ?_ _ | with_reducible refine Env.alloc ?_ _ | with_reducible refine Env.put ?_ (by omega) _ _))))).mono ?_
          rintro e w1 ⟨rfl, hb1⟩
          have hE1 : Env w B3 ((g3, 0, .int .u64 s3) :: (g3, 1, .int .u8 f3) :: (g3, 2, .bool false) :: (g2, 0, .int .u64 s2) :: (g2, 1, .int .u8 f2) :: (g2, 2, .bool false) :: (g1, 0, .int .u64 s1) :: (g1, 1, .int .u8 f1) :: (g1, 2, .bool false) :: []) w1 := Env.call (by repeat' (first | with_reducible assumption | with_reducible refine Env.drew ?_ | with_reducible refine Env.drewN ?_ _ | with_reducible refine Env.alloc ?_ _ | with_reducible refine Env.put ?_ (by omega) _ _)) hb1
          have hz1 := hE1.size
          go_wp2_with fail
          go_meet
          refine ⟨_, _, rfl, Env.add3 (B := B3) (by repeat' (first | with_reducible assumption | with_reducible refine Env.drew ?_ | with_reducible refine Env.drewN ?_ _ | with_reducible refine Env.alloc ?_ _ | with_reducible refine Env.put ?_ (by omega) _ _)) ?_ ?_ ?_⟩ <;> (go_simp; done)
        case rest =>
          obtain ⟨g4, B4, rfl, hE4⟩ := hcut
          clear hE3
          have c1_0 := hE4.get (b := g1) (i := 0) (v := .int .u64 s1) (by simp)
          have c1_1 := hE4.get (b := g1) (i := 1) (v := .int .u8 f1) (by simp)
          have c1_2 := hE4.get (b := g1) (i := 2) (v := .bool false) (by simp)
          have c2_0 := hE4.get (b := g2) (i := 0) (v := .int .u64 s2) (by simp)
          have c2_1 := hE4.get (b := g2) (i := 1) (v := .int .u8 f2) (by simp)
          have c2_2 := hE4.get (b := g2) (i := 2) (v := .bool false) (by simp)
          have c3_0 := hE4.get (b := g3) (i := 0) (v := .int .u64 s3) (by simp)
          have c3_1 := hE4.get (b := g3) (i := 1) (v := .int .u8 f3) (by simp)
          have c3_2 := hE4.get (b := g3) (i := 2) (v := .bool false) (by simp)
          have c4_0 := hE4.get (b := g4) (i := 0) (v := .int .u64 s4) (by simp)
          have c4_1 := hE4.get (b := g4) (i := 1) (v := .int .u8 f4) (by simp)
          have c4_2 := hE4.get (b := g4) (i := 2) (v := .bool false) (by simp)
          have hB := hE4.below
          clear hE4 D1 D2 D3 D4
          go_wp2_with fail
          go_ret
          exact ⟨rfl, hB⟩
theorem env_start (op md : Int) (a b c : Nat) (w : World) : Env w (w.heap.size + 1) ((w.heap.size, 2, .int .u64 a) :: (w.heap.size, 3, .int .u64 b) :: []) (w.alloc (.cells #[.int .i64 op, .int .i64 md, .int .u64 a, .int .u64 b, .int .u64 c] 28)) := by
  have h := (Env.nil (Below.refl w.heap.size w)).alloc (.cells #[.int .i64 op, .int .i64 md, .int .u64 a, .int .u64 b, .int .u64 c] 28)
  have h2 := h.raise (B2 := w.heap.size + 1) (by omega) (by simp)
  exact (h2.add (g := w.heap.size) (i := 3) (by go_simp) (by omega)).add (by go_simp) (by omega)
set_option maxRecDepth 100000 in
set_option maxHeartbeats 8000000 in
theorem turned_walk (op md : Int) (a b c t u ou ta tb s1 f1 s4 s5 f5 s7 t4 t7 : Nat) (n1 n5 : Bool) (hm : IntKind.u8.wrap md = t) (hu : (t : Int).tmod 5 = u)
    (Na : Hid (∀ W, Calls Tryd.prog 31 #[.int .u64 a] W fun e w' => e = .returned (.bool false) ∧ W = w')) (Nb : Hid (∀ W, Calls Tryd.prog 31 #[.int .u64 b] W fun e w' => e = .returned (.bool false) ∧ W = w'))
    (Ma : Hid (∀ W, Calls Tryd.prog 33 #[.int .u64 a] W fun e w' => e = .returned (.int .u64 ta) ∧ W = w')) (Mb : Hid (∀ W, Calls Tryd.prog 33 #[.int .u64 b] W fun e w' => e = .returned (.int .u64 tb) ∧ W = w')) (Ot : Hid (∀ W, Calls Tryd.prog 34 #[.int .u8 u] W fun e w' => e = .returned (.int .u8 ou) ∧ W = w'))
    (D1 : Hid (∀ W, TableAt W → Calls Tryd.prog 29 #[.agg #[.int .u8 1, .int .u8 u, .int .u64 a, .int .u64 b, .int .u64 0]] W (SoftOut s1 f1 false W)))
    (D2 : Hid (∀ W, TableAt W → Calls Tryd.prog 29 #[.agg #[.int .u8 1, .int .u8 u, .int .u64 b, .int .u64 a, .int .u64 0]] W (SoftOut s1 f1 false W)))
    (D3 : Hid (∀ W, TableAt W → Calls Tryd.prog 29 #[.agg #[.int .u8 2, .int .u8 u, .int .u64 a, .int .u64 tb, .int .u64 0]] W (SoftOut s1 f1 false W)))
    (D4 : Hid (∀ W, TableAt W → Calls Tryd.prog 29 #[.agg #[.int .u8 1, .int .u8 ou, .int .u64 ta, .int .u64 tb, .int .u64 0]] W (SoftOut s4 f1 false W)))
    (D5 : Hid (∀ W, TableAt W → Calls Tryd.prog 29 #[.agg #[.int .u8 3, .int .u8 u, .int .u64 a, .int .u64 b, .int .u64 0]] W (SoftOut s5 f5 false W)))
    (D6 : Hid (∀ W, TableAt W → Calls Tryd.prog 29 #[.agg #[.int .u8 3, .int .u8 u, .int .u64 b, .int .u64 a, .int .u64 0]] W (SoftOut s5 f5 false W)))
    (D7 : Hid (∀ W, TableAt W → Calls Tryd.prog 29 #[.agg #[.int .u8 3, .int .u8 ou, .int .u64 ta, .int .u64 b, .int .u64 0]] W (SoftOut s7 f5 false W)))
    (N1 : Hid (∀ W, Calls Tryd.prog 31 #[.int .u64 s1] W fun e w' => e = .returned (.bool n1) ∧ w' = W)) (N5 : Hid (∀ W, Calls Tryd.prog 31 #[.int .u64 s5] W fun e w' => e = .returned (.bool n5) ∧ w' = W)) (M4 : Hid (∀ W, Calls Tryd.prog 33 #[.int .u64 s4] W fun e w' => e = .returned (.int .u64 t4) ∧ w' = W)) (M7 : Hid (∀ W, Calls Tryd.prog 33 #[.int .u64 s7] W fun e w' => e = .returned (.int .u64 t7) ∧ w' = W))
    (hsum : n1 = true ∨ (n1 = false ∧ ((t4 : Int) == s1) = true) ∨ (n1 = false ∧ ((t4 : Int) == s1) = false ∧ (IntKind.u64.wrap ((s1 : Int) * 2) == 0) = true ∧ (IntKind.u64.wrap ((s4 : Int) * 2) == 0) = true)) (hprod : n5 = true ∨ (n5 = false ∧ ((t7 : Int) == s5) = true)) (w : World) (hT : Hid (TableAt w)) : Calls Tryd.prog 19 #[LREC op md a b c] w fun e w' => e = .returned (.bool true) ∧ Below w.heap.size w w' := by
  have hE0 := env_start op md a b c w
  go_enter Tryd.func19, Tryd.ntmps19
  go_upto_region 4 with (first | (go_at_call_of 31 (Value.int IntKind.u64 a); refine (Na.out _).mono ?_; rintro e w' ⟨rfl, rfl⟩) | (go_at_call_of 31 (Value.int IntKind.u64 b); refine (Nb.out _).mono ?_; rintro e w' ⟨rfl, rfl⟩))
  go_cut [4] (fun s wx => ∃ g1 B : Nat, s = .pointer (some ⟨g1, 0, none⟩) ∧ Env w B ((g1, 0, .int .u64 s1) :: (g1, 1, .int .u8 f1) :: (g1, 2, .bool false) :: (w.heap.size, 2, .int .u64 a) :: (w.heap.size, 3, .int .u64 b) :: []) wx)
  case first =>
    have hz0 := hE0.size
    have hS_0 : ((w.alloc (.cells #[.int .i64 op, .int .i64 md, .int .u64 a, .int .u64 b, .int .u64 c] 28)).cell? ⟨w.heap.size, 2, none⟩ = some (.int .u64 a) ∧ (w.alloc (.cells #[.int .i64 op, .int .i64 md, .int .u64 a, .int .u64 b, .int .u64 c] 28)).cell? ⟨w.heap.size, 3, none⟩ = some (.int .u64 b)) := ⟨hE0.get (by simp), hE0.get (by simp)⟩
    have hl0_0 := World.block_lt_of_cell? _ _ hS_0.1
    obtain ⟨hs0, hs1⟩ := hS_0
    go_wp2_with fail
    refine (D1.out _ (hT.out.below (Nat.le_refl _) (Env.below (B := (w.heap.size + 1)) (C := (w.heap.size, 2, .int .u64 a) :: (w.heap.size, 3, .int .u64 b) :: []) (by repeat' (first | with_reducible assumption | with_reducible refine Env.drew ?_ | with_reducible refine Env.drewN ?_ _ | with_reducible refine Env.alloc ?_ _ | with_reducible refine Env.put ?_ (by omega) _ _))))).mono ?_
    rintro e w1 ⟨rfl, hb1⟩
    have hE1 : Env w (w.heap.size + 1) ((w.heap.size, 2, .int .u64 a) :: (w.heap.size, 3, .int .u64 b) :: []) w1 := Env.call (by repeat' (first | with_reducible assumption | with_reducible refine Env.drew ?_ | with_reducible refine Env.drewN ?_ _ | with_reducible refine Env.alloc ?_ _ | with_reducible refine Env.put ?_ (by omega) _ _)) hb1
    have hz1 := hE1.size
    go_wp2_with fail
    go_meet
    refine ⟨_, _, rfl, Env.add3 (B := (w.heap.size + 1)) (by repeat' (first | with_reducible assumption | with_reducible refine Env.drew ?_ | with_reducible refine Env.drewN ?_ _ | with_reducible refine Env.alloc ?_ _ | with_reducible refine Env.put ?_ (by omega) _ _)) ?_ ?_ ?_⟩ <;> (go_simp; done)
  case rest =>
    obtain ⟨g1, B1, rfl, hE1⟩ := hcut
    go_upto_region 5 with (fail)
    go_cut [5] (fun s wx => ∃ g2 B : Nat, s = .pointer (some ⟨g2, 0, none⟩) ∧ Env w B ((g2, 0, .int .u64 s1) :: (g2, 1, .int .u8 f1) :: (g2, 2, .bool false) :: (g1, 0, .int .u64 s1) :: (g1, 1, .int .u8 f1) :: (g1, 2, .bool false) :: (w.heap.size, 2, .int .u64 a) :: (w.heap.size, 3, .int .u64 b) :: []) wx)
    case first =>
      have hz0 := hE1.size
      have hS_0 : (wc.cell? ⟨w.heap.size, 2, none⟩ = some (.int .u64 a) ∧ wc.cell? ⟨w.heap.size, 3, none⟩ = some (.int .u64 b)) := ⟨hE1.get (by simp), hE1.get (by simp)⟩
      have hl0_0 := World.block_lt_of_cell? _ _ hS_0.1
      obtain ⟨hs0, hs1⟩ := hS_0
      go_wp2_with fail
      refine (D2.out _ (hT.out.below (Nat.le_refl _) (Env.below (B := B1) (C := (g1, 0, .int .u64 s1) :: (g1, 1, .int .u8 f1) :: (g1, 2, .bool false) :: (w.heap.size, 2, .int .u64 a) :: (w.heap.size, 3, .int .u64 b) :: []) (by repeat' (first | with_reducible assumption | with_reducible refine Env.drew ?_ | with_reducible refine Env.drewN ?_ _ | with_reducible refine Env.alloc ?_ _ | with_reducible refine Env.put ?_ (by omega) _ _))))).mono ?_
      rintro e w1 ⟨rfl, hb1⟩
      have hE1 : Env w B1 ((g1, 0, .int .u64 s1) :: (g1, 1, .int .u8 f1) :: (g1, 2, .bool false) :: (w.heap.size, 2, .int .u64 a) :: (w.heap.size, 3, .int .u64 b) :: []) w1 := Env.call (by repeat' (first | with_reducible assumption | with_reducible refine Env.drew ?_ | with_reducible refine Env.drewN ?_ _ | with_reducible refine Env.alloc ?_ _ | with_reducible refine Env.put ?_ (by omega) _ _)) hb1
      have hz1 := hE1.size
      go_wp2_with fail
      go_meet
      refine ⟨_, _, rfl, Env.add3 (B := B1) (by repeat' (first | with_reducible assumption | with_reducible refine Env.drew ?_ | with_reducible refine Env.drewN ?_ _ | with_reducible refine Env.alloc ?_ _ | with_reducible refine Env.put ?_ (by omega) _ _)) ?_ ?_ ?_⟩ <;> (go_simp; done)
    case rest =>
      obtain ⟨g2, B2, rfl, hE2⟩ := hcut
      clear hE1
      go_upto_region 6 with (fail)
      go_cut [6] (fun s wx => ∃ g3 B : Nat, s = .pointer (some ⟨g3, 0, none⟩) ∧ Env w B ((g3, 0, .int .u64 s1) :: (g3, 1, .int .u8 f1) :: (g3, 2, .bool false) :: (g2, 0, .int .u64 s1) :: (g2, 1, .int .u8 f1) :: (g2, 2, .bool false) :: (g1, 0, .int .u64 s1) :: (g1, 1, .int .u8 f1) :: (g1, 2, .bool false) :: (w.heap.size, 2, .int .u64 a) :: (w.heap.size, 3, .int .u64 b) :: []) wx)
      case first =>
        have hz0 := hE2.size
        have hS_0 : (wc.cell? ⟨w.heap.size, 2, none⟩ = some (.int .u64 a) ∧ wc.cell? ⟨w.heap.size, 3, none⟩ = some (.int .u64 b)) := ⟨hE2.get (by simp), hE2.get (by simp)⟩
        have hl0_0 := World.block_lt_of_cell? _ _ hS_0.1
        go_region_held3 (fun w' => (w'.cell? ⟨w.heap.size, 2, none⟩ = some (.int .u64 a) ∧ w'.cell? ⟨w.heap.size, 3, none⟩ = some (.int .u64 b)))
          (first
            | with_reducible exact hS_1
            | with_reducible exact hS_0
            | with_reducible exact s2_put3 hS_1 (by omega) _ _ _
            | (refine ⟨?_, ?_⟩ <;> (go_simp; done))
            | go_keep)
          (first
            | (go_at_call_of 33 (Value.int IntKind.u64 b); refine (Mb.out _).mono ?_; rintro e w' ⟨rfl, rfl⟩)
            | (go_at_call 29; refine (D3.out _ (hT.out.below (Nat.le_refl _) (Env.below (B := B2) (C := (g2, 0, .int .u64 s1) :: (g2, 1, .int .u8 f1) :: (g2, 2, .bool false) :: (g1, 0, .int .u64 s1) :: (g1, 1, .int .u8 f1) :: (g1, 2, .bool false) :: (w.heap.size, 2, .int .u64 a) :: (w.heap.size, 3, .int .u64 b) :: []) (by repeat' (first | with_reducible assumption | with_reducible refine Env.drew ?_ | with_reducible refine Env.drewN ?_ _ | with_reducible refine Env.alloc ?_ _ | with_reducible refine Env.put ?_ (by omega) _ _))))).mono ?_; rintro e w1 ⟨rfl, hb1⟩; have hE1 : Env w B2 ((g2, 0, .int .u64 s1) :: (g2, 1, .int .u8 f1) :: (g2, 2, .bool false) :: (g1, 0, .int .u64 s1) :: (g1, 1, .int .u8 f1) :: (g1, 2, .bool false) :: (w.heap.size, 2, .int .u64 a) :: (w.heap.size, 3, .int .u64 b) :: []) w1 := Env.call (by repeat' (first | with_reducible assumption | with_reducible refine Env.drew ?_ | with_reducible refine Env.drewN ?_ _ | with_reducible refine Env.alloc ?_ _ | with_reducible refine Env.put ?_ (by omega) _ _)) hb1; have hz1 := hE1.size; have hzz1 := hb1.size; (try simp at hzz1); have hS_1 : (w1.cell? ⟨w.heap.size, 2, none⟩ = some (.int .u64 a) ∧ w1.cell? ⟨w.heap.size, 3, none⟩ = some (.int .u64 b)) := ⟨hE1.get (by simp), hE1.get (by simp)⟩; have hl0_1 := World.block_lt_of_cell? _ _ hS_1.1; (try ((first | have zz := Z3.call (Z3.new _ _) hb1 | have zz := Z3.call (Z3.drew (Z3.new _ _)) hb1 | have zz := Z3.call (Z3.drew (Z3.drew (Z3.new _ _))) hb1); (try simp at zz); obtain ⟨⟨zz0, zz1, zz2⟩, zy0, zy1, zy2⟩ := zz))))
        all_goals
          go_wp2_with fail
          go_meet
          refine ⟨_, _, rfl, Env.add3 (B := B2) (by repeat' (first | with_reducible assumption | with_reducible refine Env.drew ?_ | with_reducible refine Env.drewN ?_ _ | with_reducible refine Env.alloc ?_ _ | with_reducible refine Env.put ?_ (by omega) _ _)) ?_ ?_ ?_⟩ <;> (go_simp; done)
      case rest =>
        obtain ⟨g3, B3, rfl, hE3⟩ := hcut
        clear hE2
        go_upto_region 7 with (fail)
        go_cut [7] (fun s wx => ∃ g4 B : Nat, s = .pointer (some ⟨g4, 0, none⟩) ∧ Env w B ((g4, 0, .int .u64 s4) :: (g4, 1, .int .u8 f1) :: (g4, 2, .bool false) :: (g3, 0, .int .u64 s1) :: (g3, 1, .int .u8 f1) :: (g3, 2, .bool false) :: (g2, 0, .int .u64 s1) :: (g2, 1, .int .u8 f1) :: (g2, 2, .bool false) :: (g1, 0, .int .u64 s1) :: (g1, 1, .int .u8 f1) :: (g1, 2, .bool false) :: (w.heap.size, 2, .int .u64 a) :: (w.heap.size, 3, .int .u64 b) :: []) wx)
        case first =>
          have hz0 := hE3.size
          have hS_0 : (wc.cell? ⟨w.heap.size, 2, none⟩ = some (.int .u64 a) ∧ wc.cell? ⟨w.heap.size, 3, none⟩ = some (.int .u64 b)) := ⟨hE3.get (by simp), hE3.get (by simp)⟩
          have hl0_0 := World.block_lt_of_cell? _ _ hS_0.1
          go_region_held3 (fun w' => (w'.cell? ⟨w.heap.size, 2, none⟩ = some (.int .u64 a) ∧ w'.cell? ⟨w.heap.size, 3, none⟩ = some (.int .u64 b)))
            (first
              | with_reducible exact hS_1
              | with_reducible exact hS_0
              | with_reducible exact s2_put3 hS_1 (by omega) _ _ _
              | (refine ⟨?_, ?_⟩ <;> (go_simp; done))
              | go_keep)
            (first
              | (go_at_call_of 33 (Value.int IntKind.u64 a); refine (Ma.out _).mono ?_; rintro e w' ⟨rfl, rfl⟩)
              | (go_at_call_of 33 (Value.int IntKind.u64 b); refine (Mb.out _).mono ?_; rintro e w' ⟨rfl, rfl⟩)
              | (go_at_call 34; refine (Ot.out _).mono ?_; rintro e w' ⟨rfl, rfl⟩)
              | (go_at_call 29; refine (D4.out _ (hT.out.below (Nat.le_refl _) (Env.below (B := B3) (C := (g3, 0, .int .u64 s1) :: (g3, 1, .int .u8 f1) :: (g3, 2, .bool false) :: (g2, 0, .int .u64 s1) :: (g2, 1, .int .u8 f1) :: (g2, 2, .bool false) :: (g1, 0, .int .u64 s1) :: (g1, 1, .int .u8 f1) :: (g1, 2, .bool false) :: (w.heap.size, 2, .int .u64 a) :: (w.heap.size, 3, .int .u64 b) :: []) (by repeat' (first | with_reducible assumption | with_reducible refine Env.drew ?_ | with_reducible refine Env.drewN ?_ _ | with_reducible refine Env.alloc ?_ _ | with_reducible refine Env.put ?_ (by omega) _ _))))).mono ?_; rintro e w1 ⟨rfl, hb1⟩; have hE1 : Env w B3 ((g3, 0, .int .u64 s1) :: (g3, 1, .int .u8 f1) :: (g3, 2, .bool false) :: (g2, 0, .int .u64 s1) :: (g2, 1, .int .u8 f1) :: (g2, 2, .bool false) :: (g1, 0, .int .u64 s1) :: (g1, 1, .int .u8 f1) :: (g1, 2, .bool false) :: (w.heap.size, 2, .int .u64 a) :: (w.heap.size, 3, .int .u64 b) :: []) w1 := Env.call (by repeat' (first | with_reducible assumption | with_reducible refine Env.drew ?_ | with_reducible refine Env.drewN ?_ _ | with_reducible refine Env.alloc ?_ _ | with_reducible refine Env.put ?_ (by omega) _ _)) hb1; have hz1 := hE1.size; have hzz1 := hb1.size; (try simp at hzz1); have hS_1 : (w1.cell? ⟨w.heap.size, 2, none⟩ = some (.int .u64 a) ∧ w1.cell? ⟨w.heap.size, 3, none⟩ = some (.int .u64 b)) := ⟨hE1.get (by simp), hE1.get (by simp)⟩; have hl0_1 := World.block_lt_of_cell? _ _ hS_1.1; (try ((first | have zz := Z3.call (Z3.new _ _) hb1 | have zz := Z3.call (Z3.drew (Z3.new _ _)) hb1 | have zz := Z3.call (Z3.drew (Z3.drew (Z3.new _ _))) hb1); (try simp at zz); obtain ⟨⟨zz0, zz1, zz2⟩, zy0, zy1, zy2⟩ := zz))))
          all_goals
            go_wp2_with fail
            go_meet
            refine ⟨_, _, rfl, Env.add3 (B := B3) (by repeat' (first | with_reducible assumption | with_reducible refine Env.drew ?_ | with_reducible refine Env.drewN ?_ _ | with_reducible refine Env.alloc ?_ _ | with_reducible refine Env.put ?_ (by omega) _ _)) ?_ ?_ ?_⟩ <;> (go_simp; done)
        case rest =>
          obtain ⟨g4, B4, rfl, hE4⟩ := hcut
          clear hE3
          go_upto_region 8 with (fail)
          go_cut [8] (fun s wx => ∃ g5 B : Nat, s = .pointer (some ⟨g5, 0, none⟩) ∧ Env w B ((g5, 0, .int .u64 s5) :: (g5, 1, .int .u8 f5) :: (g5, 2, .bool false) :: (g4, 0, .int .u64 s4) :: (g4, 1, .int .u8 f1) :: (g4, 2, .bool false) :: (g3, 0, .int .u64 s1) :: (g3, 1, .int .u8 f1) :: (g3, 2, .bool false) :: (g2, 0, .int .u64 s1) :: (g2, 1, .int .u8 f1) :: (g2, 2, .bool false) :: (g1, 0, .int .u64 s1) :: (g1, 1, .int .u8 f1) :: (g1, 2, .bool false) :: (w.heap.size, 2, .int .u64 a) :: (w.heap.size, 3, .int .u64 b) :: []) wx)
          case first =>
            have hz0 := hE4.size
            have hS_0 : (wc.cell? ⟨w.heap.size, 2, none⟩ = some (.int .u64 a) ∧ wc.cell? ⟨w.heap.size, 3, none⟩ = some (.int .u64 b)) := ⟨hE4.get (by simp), hE4.get (by simp)⟩
            have hl0_0 := World.block_lt_of_cell? _ _ hS_0.1
            obtain ⟨hs0, hs1⟩ := hS_0
            go_wp2_with fail
            refine (D5.out _ (hT.out.below (Nat.le_refl _) (Env.below (B := B4) (C := (g4, 0, .int .u64 s4) :: (g4, 1, .int .u8 f1) :: (g4, 2, .bool false) :: (g3, 0, .int .u64 s1) :: (g3, 1, .int .u8 f1) :: (g3, 2, .bool false) :: (g2, 0, .int .u64 s1) :: (g2, 1, .int .u8 f1) :: (g2, 2, .bool false) :: (g1, 0, .int .u64 s1) :: (g1, 1, .int .u8 f1) :: (g1, 2, .bool false) :: (w.heap.size, 2, .int .u64 a) :: (w.heap.size, 3, .int .u64 b) :: []) (by repeat' (first | with_reducible assumption | with_reducible refine Env.drew ?_ | with_reducible refine Env.drewN ?_ _ | with_reducible refine Env.alloc ?_ _ | with_reducible refine Env.put ?_ (by omega) _ _))))).mono ?_
            rintro e w1 ⟨rfl, hb1⟩
            have hE1 : Env w B4 ((g4, 0, .int .u64 s4) :: (g4, 1, .int .u8 f1) :: (g4, 2, .bool false) :: (g3, 0, .int .u64 s1) :: (g3, 1, .int .u8 f1) :: (g3, 2, .bool false) :: (g2, 0, .int .u64 s1) :: (g2, 1, .int .u8 f1) :: (g2, 2, .bool false) :: (g1, 0, .int .u64 s1) :: (g1, 1, .int .u8 f1) :: (g1, 2, .bool false) :: (w.heap.size, 2, .int .u64 a) :: (w.heap.size, 3, .int .u64 b) :: []) w1 := Env.call (by repeat' (first | with_reducible assumption | with_reducible refine Env.drew ?_ | with_reducible refine Env.drewN ?_ _ | with_reducible refine Env.alloc ?_ _ | with_reducible refine Env.put ?_ (by omega) _ _)) hb1
            have hz1 := hE1.size
            go_wp2_with fail
            go_meet
            refine ⟨_, _, rfl, Env.add3 (B := B4) (by repeat' (first | with_reducible assumption | with_reducible refine Env.drew ?_ | with_reducible refine Env.drewN ?_ _ | with_reducible refine Env.alloc ?_ _ | with_reducible refine Env.put ?_ (by omega) _ _)) ?_ ?_ ?_⟩ <;> (go_simp; done)
          case rest =>
            obtain ⟨g5, B5, rfl, hE5⟩ := hcut
            clear hE4
            go_upto_region 9 with (fail)
            go_cut [9] (fun s wx => ∃ g6 B : Nat, s = .pointer (some ⟨g6, 0, none⟩) ∧ Env w B ((g6, 0, .int .u64 s5) :: (g6, 1, .int .u8 f5) :: (g6, 2, .bool false) :: (g5, 0, .int .u64 s5) :: (g5, 1, .int .u8 f5) :: (g5, 2, .bool false) :: (g4, 0, .int .u64 s4) :: (g4, 1, .int .u8 f1) :: (g4, 2, .bool false) :: (g3, 0, .int .u64 s1) :: (g3, 1, .int .u8 f1) :: (g3, 2, .bool false) :: (g2, 0, .int .u64 s1) :: (g2, 1, .int .u8 f1) :: (g2, 2, .bool false) :: (g1, 0, .int .u64 s1) :: (g1, 1, .int .u8 f1) :: (g1, 2, .bool false) :: (w.heap.size, 2, .int .u64 a) :: (w.heap.size, 3, .int .u64 b) :: []) wx)
            case first =>
              have hz0 := hE5.size
              have hS_0 : (wc.cell? ⟨w.heap.size, 2, none⟩ = some (.int .u64 a) ∧ wc.cell? ⟨w.heap.size, 3, none⟩ = some (.int .u64 b)) := ⟨hE5.get (by simp), hE5.get (by simp)⟩
              have hl0_0 := World.block_lt_of_cell? _ _ hS_0.1
              obtain ⟨hs0, hs1⟩ := hS_0
              go_wp2_with fail
              refine (D6.out _ (hT.out.below (Nat.le_refl _) (Env.below (B := B5) (C := (g5, 0, .int .u64 s5) :: (g5, 1, .int .u8 f5) :: (g5, 2, .bool false) :: (g4, 0, .int .u64 s4) :: (g4, 1, .int .u8 f1) :: (g4, 2, .bool false) :: (g3, 0, .int .u64 s1) :: (g3, 1, .int .u8 f1) :: (g3, 2, .bool false) :: (g2, 0, .int .u64 s1) :: (g2, 1, .int .u8 f1) :: (g2, 2, .bool false) :: (g1, 0, .int .u64 s1) :: (g1, 1, .int .u8 f1) :: (g1, 2, .bool false) :: (w.heap.size, 2, .int .u64 a) :: (w.heap.size, 3, .int .u64 b) :: []) (by repeat' (first | with_reducible assumption | with_reducible refine Env.drew ?_ | with_reducible refine Env.drewN ?_ _ | with_reducible refine Env.alloc ?_ _ | with_reducible refine Env.put ?_ (by omega) _ _))))).mono ?_
              rintro e w1 ⟨rfl, hb1⟩
              have hE1 : Env w B5 ((g5, 0, .int .u64 s5) :: (g5, 1, .int .u8 f5) :: (g5, 2, .bool false) :: (g4, 0, .int .u64 s4) :: (g4, 1, .int .u8 f1) :: (g4, 2, .bool false) :: (g3, 0, .int .u64 s1) :: (g3, 1, .int .u8 f1) :: (g3, 2, .bool false) :: (g2, 0, .int .u64 s1) :: (g2, 1, .int .u8 f1) :: (g2, 2, .bool false) :: (g1, 0, .int .u64 s1) :: (g1, 1, .int .u8 f1) :: (g1, 2, .bool false) :: (w.heap.size, 2, .int .u64 a) :: (w.heap.size, 3, .int .u64 b) :: []) w1 := Env.call (by repeat' (first | with_reducible assumption | with_reducible refine Env.drew ?_ | with_reducible refine Env.drewN ?_ _ | with_reducible refine Env.alloc ?_ _ | with_reducible refine Env.put ?_ (by omega) _ _)) hb1
              have hz1 := hE1.size
              go_wp2_with fail
              go_meet
              refine ⟨_, _, rfl, Env.add3 (B := B5) (by repeat' (first | with_reducible assumption | with_reducible refine Env.drew ?_ | with_reducible refine Env.drewN ?_ _ | with_reducible refine Env.alloc ?_ _ | with_reducible refine Env.put ?_ (by omega) _ _)) ?_ ?_ ?_⟩ <;> (go_simp; done)
            case rest =>
              obtain ⟨g6, B6, rfl, hE6⟩ := hcut
              clear hE5
              go_upto_region 10 with (fail)
              go_cut [10] (fun s wx => ∃ g7 B : Nat, s = .pointer (some ⟨g7, 0, none⟩) ∧ Env w B ((g7, 0, .int .u64 s7) :: (g7, 1, .int .u8 f5) :: (g7, 2, .bool false) :: (g6, 0, .int .u64 s5) :: (g6, 1, .int .u8 f5) :: (g6, 2, .bool false) :: (g5, 0, .int .u64 s5) :: (g5, 1, .int .u8 f5) :: (g5, 2, .bool false) :: (g4, 0, .int .u64 s4) :: (g4, 1, .int .u8 f1) :: (g4, 2, .bool false) :: (g3, 0, .int .u64 s1) :: (g3, 1, .int .u8 f1) :: (g3, 2, .bool false) :: (g2, 0, .int .u64 s1) :: (g2, 1, .int .u8 f1) :: (g2, 2, .bool false) :: (g1, 0, .int .u64 s1) :: (g1, 1, .int .u8 f1) :: (g1, 2, .bool false) :: (w.heap.size, 2, .int .u64 a) :: (w.heap.size, 3, .int .u64 b) :: []) wx)
              case first =>
                have hz0 := hE6.size
                have hS_0 : (wc.cell? ⟨w.heap.size, 2, none⟩ = some (.int .u64 a) ∧ wc.cell? ⟨w.heap.size, 3, none⟩ = some (.int .u64 b)) := ⟨hE6.get (by simp), hE6.get (by simp)⟩
                have hl0_0 := World.block_lt_of_cell? _ _ hS_0.1
                go_region_held3 (fun w' => (w'.cell? ⟨w.heap.size, 2, none⟩ = some (.int .u64 a) ∧ w'.cell? ⟨w.heap.size, 3, none⟩ = some (.int .u64 b)))
                  (first
                    | with_reducible exact hS_1
                    | with_reducible exact hS_0
                    | with_reducible exact s2_put3 hS_1 (by omega) _ _ _
                    | (refine ⟨?_, ?_⟩ <;> (go_simp; done))
                    | go_keep)
                  (first
                    | (go_at_call_of 33 (Value.int IntKind.u64 a); refine (Ma.out _).mono ?_; rintro e w' ⟨rfl, rfl⟩)
                    | (go_at_call 34; refine (Ot.out _).mono ?_; rintro e w' ⟨rfl, rfl⟩)
                    | (go_at_call 29; refine (D7.out _ (hT.out.below (Nat.le_refl _) (Env.below (B := B6) (C := (g6, 0, .int .u64 s5) :: (g6, 1, .int .u8 f5) :: (g6, 2, .bool false) :: (g5, 0, .int .u64 s5) :: (g5, 1, .int .u8 f5) :: (g5, 2, .bool false) :: (g4, 0, .int .u64 s4) :: (g4, 1, .int .u8 f1) :: (g4, 2, .bool false) :: (g3, 0, .int .u64 s1) :: (g3, 1, .int .u8 f1) :: (g3, 2, .bool false) :: (g2, 0, .int .u64 s1) :: (g2, 1, .int .u8 f1) :: (g2, 2, .bool false) :: (g1, 0, .int .u64 s1) :: (g1, 1, .int .u8 f1) :: (g1, 2, .bool false) :: (w.heap.size, 2, .int .u64 a) :: (w.heap.size, 3, .int .u64 b) :: []) (by repeat' (first | with_reducible assumption | with_reducible refine Env.drew ?_ | with_reducible refine Env.drewN ?_ _ | with_reducible refine Env.alloc ?_ _ | with_reducible refine Env.put ?_ (by omega) _ _))))).mono ?_; rintro e w1 ⟨rfl, hb1⟩; have hE1 : Env w B6 ((g6, 0, .int .u64 s5) :: (g6, 1, .int .u8 f5) :: (g6, 2, .bool false) :: (g5, 0, .int .u64 s5) :: (g5, 1, .int .u8 f5) :: (g5, 2, .bool false) :: (g4, 0, .int .u64 s4) :: (g4, 1, .int .u8 f1) :: (g4, 2, .bool false) :: (g3, 0, .int .u64 s1) :: (g3, 1, .int .u8 f1) :: (g3, 2, .bool false) :: (g2, 0, .int .u64 s1) :: (g2, 1, .int .u8 f1) :: (g2, 2, .bool false) :: (g1, 0, .int .u64 s1) :: (g1, 1, .int .u8 f1) :: (g1, 2, .bool false) :: (w.heap.size, 2, .int .u64 a) :: (w.heap.size, 3, .int .u64 b) :: []) w1 := Env.call (by repeat' (first | with_reducible assumption | with_reducible refine Env.drew ?_ | with_reducible refine Env.drewN ?_ _ | with_reducible refine Env.alloc ?_ _ | with_reducible refine Env.put ?_ (by omega) _ _)) hb1; have hz1 := hE1.size; have hzz1 := hb1.size; (try simp at hzz1); have hS_1 : (w1.cell? ⟨w.heap.size, 2, none⟩ = some (.int .u64 a) ∧ w1.cell? ⟨w.heap.size, 3, none⟩ = some (.int .u64 b)) := ⟨hE1.get (by simp), hE1.get (by simp)⟩; have hl0_1 := World.block_lt_of_cell? _ _ hS_1.1; (try ((first | have zz := Z3.call (Z3.new _ _) hb1 | have zz := Z3.call (Z3.drew (Z3.new _ _)) hb1 | have zz := Z3.call (Z3.drew (Z3.drew (Z3.new _ _))) hb1); (try simp at zz); obtain ⟨⟨zz0, zz1, zz2⟩, zy0, zy1, zy2⟩ := zz))))
                all_goals
                  go_wp2_with fail
                  go_meet
                  refine ⟨_, _, rfl, Env.add3 (B := B6) (by repeat' (first | with_reducible assumption | with_reducible refine Env.drew ?_ | with_reducible refine Env.drewN ?_ _ | with_reducible refine Env.alloc ?_ _ | with_reducible refine Env.put ?_ (by omega) _ _)) ?_ ?_ ?_⟩ <;> (go_simp; done)
              case rest =>
                obtain ⟨g7, B7, rfl, hE7⟩ := hcut
                clear hE6
                obtain ⟨hs0, hs1⟩ : (wc.cell? ⟨w.heap.size, 2, none⟩ = some (.int .u64 a) ∧ wc.cell? ⟨w.heap.size, 3, none⟩ = some (.int .u64 b)) := ⟨hE7.get (by simp), hE7.get (by simp)⟩
                have c1_0 := hE7.get (b := g1) (i := 0) (v := .int .u64 s1) (by simp)
                have c1_1 := hE7.get (b := g1) (i := 1) (v := .int .u8 f1) (by simp)
                have c1_2 := hE7.get (b := g1) (i := 2) (v := .bool false) (by simp)
                have c2_0 := hE7.get (b := g2) (i := 0) (v := .int .u64 s1) (by simp)
                have c2_1 := hE7.get (b := g2) (i := 1) (v := .int .u8 f1) (by simp)
                have c2_2 := hE7.get (b := g2) (i := 2) (v := .bool false) (by simp)
                have c3_0 := hE7.get (b := g3) (i := 0) (v := .int .u64 s1) (by simp)
                have c3_1 := hE7.get (b := g3) (i := 1) (v := .int .u8 f1) (by simp)
                have c3_2 := hE7.get (b := g3) (i := 2) (v := .bool false) (by simp)
                have c4_0 := hE7.get (b := g4) (i := 0) (v := .int .u64 s4) (by simp)
                have c4_1 := hE7.get (b := g4) (i := 1) (v := .int .u8 f1) (by simp)
                have c4_2 := hE7.get (b := g4) (i := 2) (v := .bool false) (by simp)
                have c5_0 := hE7.get (b := g5) (i := 0) (v := .int .u64 s5) (by simp)
                have c5_1 := hE7.get (b := g5) (i := 1) (v := .int .u8 f5) (by simp)
                have c5_2 := hE7.get (b := g5) (i := 2) (v := .bool false) (by simp)
                have c6_0 := hE7.get (b := g6) (i := 0) (v := .int .u64 s5) (by simp)
                have c6_1 := hE7.get (b := g6) (i := 1) (v := .int .u8 f5) (by simp)
                have c6_2 := hE7.get (b := g6) (i := 2) (v := .bool false) (by simp)
                have c7_0 := hE7.get (b := g7) (i := 0) (v := .int .u64 s7) (by simp)
                have c7_1 := hE7.get (b := g7) (i := 1) (v := .int .u8 f5) (by simp)
                have c7_2 := hE7.get (b := g7) (i := 2) (v := .bool false) (by simp)
                clear hT Na Nb Ma Mb Ot D1 D2 D3 D4 D5 D6 D7
                go_upto_region 13 with (fail)
                go_cut [11] (fun s wx => s = .bool true ∧ Env w B7 ((g7, 0, .int .u64 s7) :: (g7, 1, .int .u8 f5) :: (g7, 2, .bool false) :: (g6, 0, .int .u64 s5) :: (g6, 1, .int .u8 f5) :: (g6, 2, .bool false) :: (g5, 0, .int .u64 s5) :: (g5, 1, .int .u8 f5) :: (g5, 2, .bool false) :: (g4, 0, .int .u64 s4) :: (g4, 1, .int .u8 f1) :: (g4, 2, .bool false) :: (g3, 0, .int .u64 s1) :: (g3, 1, .int .u8 f1) :: (g3, 2, .bool false) :: (g2, 0, .int .u64 s1) :: (g2, 1, .int .u8 f1) :: (g2, 2, .bool false) :: (g1, 0, .int .u64 s1) :: (g1, 1, .int .u8 f1) :: (g1, 2, .bool false) :: (w.heap.size, 2, .int .u64 a) :: (w.heap.size, 3, .int .u64 b) :: []) wx)
                case first =>
                  have dx := hE7.get (b := g1) (i := 0) (v := .int .u64 s1) (by simp)
                  have dy := hE7.get (b := g4) (i := 0) (v := .int .u64 s4) (by simp)
                  rcases hsum with rfl | ⟨rfl, hq⟩ | ⟨rfl, hq, hz1, hz4⟩
                  all_goals
                    go_quiet (first | (go_at_call_of 31 (Value.int IntKind.u64 s1); exact Calls.quiet_of_same (N1.out _)) | (go_at_call_of 33 (Value.int IntKind.u64 s4); exact Calls.quiet_of_same (M4.out _)))
                    go_wp2_with fail
                    go_meet
                    exact ⟨rfl, by repeat' (first | with_reducible assumption | with_reducible refine Env.drew ?_ | with_reducible refine Env.drewN ?_ _ | with_reducible refine Env.alloc ?_ _ | with_reducible refine Env.put ?_ (by omega) _ _)⟩
                case rest =>
                  obtain ⟨rfl, hE8⟩ := hcut
                  clear hE7
                  have hE7 := hE8
                  clear hE8
                  go_upto_region 14 with (fail)
                  go_cut [12] (fun s wx => s = .bool true ∧ Env w B7 ((g7, 0, .int .u64 s7) :: (g7, 1, .int .u8 f5) :: (g7, 2, .bool false) :: (g6, 0, .int .u64 s5) :: (g6, 1, .int .u8 f5) :: (g6, 2, .bool false) :: (g5, 0, .int .u64 s5) :: (g5, 1, .int .u8 f5) :: (g5, 2, .bool false) :: (g4, 0, .int .u64 s4) :: (g4, 1, .int .u8 f1) :: (g4, 2, .bool false) :: (g3, 0, .int .u64 s1) :: (g3, 1, .int .u8 f1) :: (g3, 2, .bool false) :: (g2, 0, .int .u64 s1) :: (g2, 1, .int .u8 f1) :: (g2, 2, .bool false) :: (g1, 0, .int .u64 s1) :: (g1, 1, .int .u8 f1) :: (g1, 2, .bool false) :: (w.heap.size, 2, .int .u64 a) :: (w.heap.size, 3, .int .u64 b) :: []) wx)
                  case first =>
                    have dx := hE7.get (b := g5) (i := 0) (v := .int .u64 s5) (by simp)
                    have dy := hE7.get (b := g7) (i := 0) (v := .int .u64 s7) (by simp)
                    rcases hprod with rfl | ⟨rfl, hq⟩
                    all_goals
                      go_quiet (first | (go_at_call_of 31 (Value.int IntKind.u64 s5); exact Calls.quiet_of_same (N5.out _)) | (go_at_call_of 33 (Value.int IntKind.u64 s7); exact Calls.quiet_of_same (M7.out _)))
                      go_wp2_with fail
                      go_meet
                      exact ⟨rfl, by repeat' (first | with_reducible assumption | with_reducible refine Env.drew ?_ | with_reducible refine Env.drewN ?_ _ | with_reducible refine Env.alloc ?_ _ | with_reducible refine Env.put ?_ (by omega) _ _)⟩
                  case rest =>
                    obtain ⟨rfl, hE8⟩ := hcut
                    clear hE7
                    have hE7 := hE8
                    clear hE8
                    go_wp2_with fail
                    go_ret
                    exact ⟨rfl, hE7.below⟩
end Go.Proofs.YtldmbneckcjonaaDoor
namespace Go.Proofs.YtldmbneckcjonaaDoor
open Go.RowKit
theorem roundS_u {m n : Nat} {g l : Bool} {e : Int} (h0 : n ≠ 0) (hl : l = true → 54 ≤ bl n) : U64 (roundS m g n l e).1 := by
  obtain ⟨T, X, hT, hN⟩ := round_near (ng := g) (e := e) h0 hl
  obtain ⟨u, f, h3, _, _⟩ := hN m
  have h3 : roundS m g n l e = (signN g + (T + (if u then 1 else 0)), f) := h3
  rw [h3]
  have h1 : (if u then 1 else 0) ≤ 1 := by split <;> omega
  have h2 : signN g ≤ 9223372036854775808 := by unfold signN; split <;> omega
  unfold U64
  show signN g + (T + (if u then 1 else 0)) < _
  omega
theorem sign_u (g : Bool) {x : Nat} (h : x < 9223372036854775808) : U64 (signN g + x) := by
  have h2 : signN g ≤ 9223372036854775808 := by unfold signN; split <;> omega
  unfold U64; omega
theorem addS_u {m a b : Nat} (ua : U64 a) (ub : U64 b) : U64 (addS m a b).1 := by
  unfold addS
  split
  · show U64 9221120237041090560; unfold U64; decide
  · split
    · exact ua
    · split
      · exact ub
      · unfold addedV
        split
        · rename_i h; exact roundS_u h (fun h => absurd h (by decide))
        · split <;> exact sign_u _ (x := 0) (by decide)
theorem mulS_u {m a b : Nat} : U64 (mulS m a b).1 := by
  have za := kind_zero (x := a)
  have zb := kind_zero (x := b)
  unfold mulS
  split
  · show U64 9221120237041090560; unfold U64; decide
  · split
    · exact sign_u _ (by decide)
    · split
      · exact sign_u _ (x := 0) (by decide)
      · exact roundS_u (by rw [Ne, Nat.mul_eq_zero]; omega) (fun h => absurd h (by decide))
theorem nanT_no {a b c : Nat} (ka : kindN a < 4) (kb : kindN b < 4) : nanS a b c 2 = false := by
  have e : nanS a b c 2 = ((false || decide (4 ≤ kindN a)) || decide (4 ≤ kindN b)) := rfl
  rw [e, decide_eq_false (by omega), decide_eq_false (by omega)]; rfl
theorem do_1 {m a b : Nat} (hm : m < 5) (ua : U64 a) (ub : U64 b) (ka : kindN a < 4) (kb : kindN b < 4) (W : World) (hT : TableAt W) : Calls Tryd.prog 29 #[REC 1 m a b 0] W (SoftOut (addS m a b).1 (addS m a b).2 false W) :=
  Do_go 1 m a b 0 _ _ (fun args w => Tryd.call130 args w) (by decide) (by decide) (by omega) ua ub (by unfold U64; decide) (nanR_no (nanT_no ka kb)) (fun W => add_any 1 m a b 0 hm ua ub ka kb W) W hT
theorem do_2 {m a b : Nat} (hm : m < 5) (ua : U64 a) (ub : U64 b) (ka : kindN a < 4) (kb : kindN b < 4) (W : World) (hT : TableAt W) : Calls Tryd.prog 29 #[REC 2 m a b 0] W (SoftOut (addS m a (turnN b)).1 (addS m a (turnN b)).2 false W) :=
  Do_go 2 m a b 0 _ _ (fun args w => Tryd.call131 args w) (by decide) (by decide) (by omega) ua ub (by unfold U64; decide) (nanR_no (nanT_no ka kb)) (fun W => sub_any 2 m a b 0 hm ua ub ka kb W) W hT
theorem do_3 {m a b : Nat} (hm : m < 5) (ua : U64 a) (ub : U64 b) (ka : kindN a < 4) (kb : kindN b < 4) (W : World) (hT : TableAt W) : Calls Tryd.prog 29 #[REC 3 m a b 0] W (SoftOut (mulS m a b).1 (mulS m a b).2 false W) :=
  Do_go 3 m a b 0 _ _ (fun args w => Tryd.call132 args w) (by decide) (by decide) (by omega) ua ub (by unfold U64; decide) (nanR_no (nanT_no ka kb)) (fun W => mul_any 3 m a b 0 hm ua ub ka kb W) W hT
theorem lv1 : addS 0 4607182418800017408 4611686018427387904 = (4613937818241073152, 0) := by decide +kernel
theorem lv2 : addS 0 4607182418800017408 4336966441157787648 = (4607182418800017408, 1) := by decide +kernel
theorem lv3 : addS 3 4607182418800017408 4336966441157787648 = (4607182418800017409, 1) := by decide +kernel
theorem lv4 : mulS 0 4613937818241073152 4613937818241073152 = (4621256167635550208, 0) := by decide +kernel
theorem lives_any (w : World) (hT : TableAt w) : Calls Tryd.prog 17 #[] w fun e w' => e = .returned (.bool true) ∧ Below w.heap.size w w' := by
  have u1 : U64 4607182418800017408 := by unfold U64; decide
  have u2 : U64 4611686018427387904 := by unfold U64; decide
  have u3 : U64 4336966441157787648 := by unfold U64; decide
  have u4 : U64 4613937818241073152 := by unfold U64; decide
  have k1 : kindN 4607182418800017408 < 4 := by decide
  have k2 : kindN 4611686018427387904 < 4 := by decide
  have k3 : kindN 4336966441157787648 < 4 := by decide
  have k4 : kindN 4613937818241073152 < 4 := by decide
  exact lives_walk 4613937818241073152 4607182418800017408 4607182418800017409 4621256167635550208 0 1 1 0
    (fun W hT => by have := do_1 (m := 0) (by decide) u1 u2 k1 k2 W hT; rw [lv1] at this; exact this)
    (fun W hT => by have := do_1 (m := 0) (by decide) u1 u3 k1 k3 W hT; rw [lv2] at this; exact this)
    (fun W hT => by have := do_1 (m := 3) (by decide) u1 u3 k1 k3 W hT; rw [lv3] at this; exact this)
    (fun W hT => by have := do_3 (m := 0) (by decide) u4 u4 k4 k4 W hT; rw [lv4] at this; exact this)
    (by decide) (by decide) (by decide) (by decide) (by decide) (by decide) (by decide) (by decide) w hT
set_option maxRecDepth 100000 in
set_option maxHeartbeats 1000000 in
theorem turned_nan1 (op md : Int) (a b c t u : Nat) (hm : IntKind.u8.wrap md = t) (hu : (t : Int).tmod 5 = u) (Na : Hid (∀ W, Calls Tryd.prog 31 #[.int .u64 a] W fun e w' => e = .returned (.bool true) ∧ W = w')) (w : World) : Calls Tryd.prog 19 #[LREC op md a b c] w fun e w' => e = .returned (.bool true) ∧ Below w.heap.size w w' := by
  go_enter Tryd.func19, Tryd.ntmps19
  go_wp2_with (go_at_call 31; refine (Na.out _).mono ?_; rintro e w' ⟨rfl, rfl⟩)
  go_ret
  refine ⟨rfl, ?_⟩
  repeat' (first | with_reducible exact Below.refl _ _ | with_reducible assumption | with_reducible refine Below.drew ?_ | with_reducible refine bdrewN ?_ _ | with_reducible refine Below.alloc ?_ ?_ _ | with_reducible refine Below.setCell ?_ ?_ _ | with_reducible refine Below.trans ?_ (Below.mono (by assumption) ?_) | omega | (simp; done) | (simp; omega))
set_option maxRecDepth 100000 in
set_option maxHeartbeats 1000000 in
theorem turned_nan2 (op md : Int) (a b c t u : Nat) (hm : IntKind.u8.wrap md = t) (hu : (t : Int).tmod 5 = u) (Na : Hid (∀ W, Calls Tryd.prog 31 #[.int .u64 a] W fun e w' => e = .returned (.bool false) ∧ W = w')) (Nb : Hid (∀ W, Calls Tryd.prog 31 #[.int .u64 b] W fun e w' => e = .returned (.bool true) ∧ W = w')) (w : World) : Calls Tryd.prog 19 #[LREC op md a b c] w fun e w' => e = .returned (.bool true) ∧ Below w.heap.size w w' := by
  go_enter Tryd.func19, Tryd.ntmps19
  go_wp2_with (first | (go_at_call_of 31 (Value.int IntKind.u64 a); refine (Na.out _).mono ?_; rintro e w' ⟨rfl, rfl⟩) | (go_at_call_of 31 (Value.int IntKind.u64 b); refine (Nb.out _).mono ?_; rintro e w' ⟨rfl, rfl⟩))
  go_ret
  refine ⟨rfl, ?_⟩
  repeat' (first | with_reducible exact Below.refl _ _ | with_reducible assumption | with_reducible refine Below.drew ?_ | with_reducible refine bdrewN ?_ _ | with_reducible refine Below.alloc ?_ ?_ _ | with_reducible refine Below.setCell ?_ ?_ _ | with_reducible refine Below.trans ?_ (Below.mono (by assumption) ?_) | omega | (simp; done) | (simp; omega))
theorem Tn.sum {x y : Nat × Nat} (h : Tn x y) : nanQ x.1 = true ∨ (nanQ x.1 = false ∧ ((turnN y.1 : Int) == x.1) = true) ∨ (nanQ x.1 = false ∧ ((turnN y.1 : Int) == x.1) = false ∧ (IntKind.u64.wrap ((x.1 : Int) * 2) == 0) = true ∧ (IntKind.u64.wrap ((y.1 : Int) * 2) == 0) = true) := by
  obtain ⟨_, h⟩ := h
  cases hn : nanQ x.1 with
  | true => exact .inl rfl
  | false =>
    by_cases he : turnN y.1 = x.1
    · exact .inr (.inl ⟨rfl, by rw [he]; exact beq_self_eq_true _⟩)
    · rcases h with h | h | ⟨h1, h2⟩
      · rw [hn] at h; exact absurd h (by decide)
      · exact absurd h he
      · refine .inr (.inr ⟨rfl, by rw [beq_eq_false_iff_ne]; omega, ?_, ?_⟩)
        · rw [IntKind.wrap_u64, beq_iff_eq]; omega
        · rw [IntKind.wrap_u64, beq_iff_eq]; omega
theorem turned_any (op md : Int) (a b c : Nat) (ua : U64 a) (ub : U64 b) (w : World) (hT : TableAt w) : Calls Tryd.prog 19 #[LREC op md a b c] w fun e w' => e = .returned (.bool true) ∧ Below w.heap.size w w' := by
  obtain ⟨t, ht⟩ : ∃ t : Nat, (t : Int) = md % 256 := ⟨(md % 256).toNat, by omega⟩
  have hm : IntKind.u8.wrap md = t := by rw [IntKind.wrap_u8]; exact ht.symm
  have hu : (t : Int).tmod 5 = (t % 5 : Nat) := by rw [Int.tmod_eq_emod_of_nonneg (by omega)]; omega
  have h5 : t % 5 < 5 := Nat.mod_lt _ (by decide)
  have Na := Lib.hid (fun W => nan_any a W)
  have Nb := Lib.hid (fun W => nan_any b W)
  cases ha : nanQ a with
  | true => rw [ha] at Na; exact turned_nan1 op md a b c t _ hm hu Na w
  | false =>
    cases hb : nanQ b with
    | true => rw [ha] at Na; rw [hb] at Nb; exact turned_nan2 op md a b c t _ hm hu Na Nb w
    | false =>
      rw [ha] at Na; rw [hb] at Nb
      have ka : kindN a < 4 := by rw [nanQ_kind ua] at ha; have := of_decide_eq_false ha; omega
      have kb : kindN b < 4 := by rw [nanQ_kind ub] at hb; have := of_decide_eq_false hb; omega
      have ka' : kindN (turnN a) < 4 := by rw [kind_turn ua]; exact ka
      have kb' : kindN (turnN b) < 4 := by rw [kind_turn ub]; exact kb
      have ho : othN (t % 5) < 5 := by unfold othN; split; decide; split; decide; exact h5
      have T1 := addS_Tn (m := t % 5) ua ub
      have T2 := mulS_Mn (m := t % 5) (b := b) ua
      have q : nanQ (mulS (t % 5) a b).1 = true ∨ (nanQ (mulS (t % 5) a b).1 = false ∧ ((turnN (mulS (othN (t % 5)) (turnN a) b).1 : Int) == (mulS (t % 5) a b).1) = true) := by
        cases hn : nanQ (mulS (t % 5) a b).1 with
        | true => exact .inl rfl
        | false =>
          rcases T2.2 with h | h
          · rw [hn] at h; exact absurd h (by decide)
          · exact .inr ⟨rfl, by rw [h]; exact beq_self_eq_true _⟩
      exact turned_walk op md a b c t (t % 5) (othN (t % 5)) (turnN a) (turnN b) (addS (t % 5) a b).1 (addS (t % 5) a b).2 (addS (othN (t % 5)) (turnN a) (turnN b)).1 (mulS (t % 5) a b).1 (mulS (t % 5) a b).2 (mulS (othN (t % 5)) (turnN a) b).1 _ _ _ _ hm hu Na Nb (fun W => minus_any a ua W) (fun W => minus_any b ub W) (fun W => other_any _ W)
        (fun W hT => do_1 h5 ua ub ka kb W hT)
        (fun W hT => by have := do_1 h5 ub ua kb ka W hT; rw [addS_comm] at this; exact this)
        (fun W hT => by have := do_2 h5 ua (turn_u ub) ka kb' W hT; rw [turn_turn] at this; exact this)
        (fun W hT => by have := do_1 ho (turn_u ua) (turn_u ub) ka' kb' W hT; rw [← T1.1] at this; exact this)
        (fun W hT => do_3 h5 ua ub ka kb W hT)
        (fun W hT => by have := do_3 h5 ub ua kb ka W hT; rw [mulS_comm] at this; exact this)
        (fun W hT => by have := do_3 ho (turn_u ua) ub ka' kb W hT; rw [← T2.1] at this; exact this)
        (fun W => (nan_any _ W).mono fun _ _ h => ⟨h.1, h.2.symm⟩) (fun W => (nan_any _ W).mono fun _ _ h => ⟨h.1, h.2.symm⟩)
        (fun W => (minus_any _ (addS_u (turn_u ua) (turn_u ub)) W).mono fun _ _ h => ⟨h.1, h.2.symm⟩) (fun W => (minus_any _ mulS_u W).mono fun _ _ h => ⟨h.1, h.2.symm⟩)
        T1.sum q w hT
end Go.Proofs.YtldmbneckcjonaaDoor
namespace Go.Proofs.YtldmbneckcjonaaDoor
open Go.RowKit
attribute [local go_sem] few_yes few_no
set_option maxRecDepth 100000 in
set_option maxHeartbeats 1000000 in
theorem Turned_any (A : Option Addr) (len cap : Nat) (hl : len ≤ maxLen) (w : World) (hT : TableAt w) (hst : StepsIn w A len) :
    Calls Tryd.prog 8 #[.slice A len cap] w fun e w' => e = .returned (.bool true) ∧ Below w.heap.size w w' := by
  unfold maxLen at hl
  have L0 := Lib.hid (fun W hT => lives_any W hT)
  replace hT := Lib.hid hT
  replace hst := Lib.hid hst
  go_enter Tryd.func8, Tryd.ntmps8
  go_wp2_with (first | (go_at_call 17; refine (L0.out _ (hT.out.below (Nat.le_refl _) (by repeat' (first | with_reducible exact Below.refl _ _ | with_reducible assumption | with_reducible refine Below.drew ?_ | with_reducible refine bdrewN ?_ _ | with_reducible refine Below.alloc ?_ ?_ _ | with_reducible refine Below.setCell ?_ ?_ _ | with_reducible refine Below.trans ?_ (Below.mono (by assumption) ?_) | omega | (simp; done) | (simp; omega))))).mono ?_; rintro e w0_ ⟨rfl, hb0_⟩))
  have hB0 : Below w.heap.size w w0_ := by repeat' (first | with_reducible exact Below.refl _ _ | with_reducible assumption | with_reducible refine Below.drew ?_ | with_reducible refine bdrewN ?_ _ | with_reducible refine Below.alloc ?_ ?_ _ | with_reducible refine Below.setCell ?_ ?_ _ | with_reducible refine Below.trans ?_ (Below.mono (by assumption) ?_) | omega | (simp; done) | (simp; omega))
  go_loopw [4, 5] (fun i _ wr => ∃ k : Nat, k ≤ len ∧ i = .int .i64 k ∧ Below w.heap.size w wr) (fun i _ _ => len - (intOf i).toNat)
  case atStart => exact ⟨0, Nat.zero_le _, rfl, hB0⟩
  case round =>
    obtain ⟨k, hk, rfl, hB⟩ := hrel
    by_cases hlt : k < len
    · rcases few_or k with h60 | h60
      · obtain ⟨a, rfl, hblk, Q, hQ, hS⟩ := hst.out k hlt
        obtain ⟨kd, av, op, md, x, y, z, L, h0, h1, h2, h3, h4, h5, h6, h7, v0, v1, v2, v3, ux, uy, uz, hL⟩ := hS.below (Nat.le_refl _) hB (by rw [block_add']; exact hblk)
        have hT' := Lib.hid (hT.out.below (Nat.le_refl _) hB)
        have rel : ∀ wr', Below w.heap.size w wr' → ∃ k' : Nat, k' ≤ len ∧ Value.int .i64 ((k : Int) + 1) = .int .i64 k' ∧ Below w.heap.size w wr' := fun wr' h => ⟨k + 1, hlt, rfl, h⟩
        replace rel := Lib.hid rel
        have hBs := hB.size
        have hkp : (k : Int) < len := by omega
        obtain ⟨LA, Ln, Lc, rfl⟩ := hQ _ hL
        rw [add_at _ (by decide)] at h1 h2 h3 h4 h5 h6 h7
        clear hL hQ hS v0 v1 v2 v3 hst
        have F := Lib.hid (fun W hT => turned_any op md x y z ux uy W hT)
        clear ux uy uz
        go_wp2_with fail
        refine (F.out _ (hT'.out.below (Nat.le_refl _) ?_)).mono ?_
        · repeat' (first | with_reducible exact Below.refl _ _ | with_reducible assumption | with_reducible refine Below.drew ?_ | with_reducible refine bdrewN ?_ _ | with_reducible refine Below.alloc ?_ ?_ _ | with_reducible refine Below.setCell ?_ ?_ _ | with_reducible refine Below.trans ?_ (Below.mono (by assumption) ?_) | omega | (simp; done) | (simp; omega))
        rintro e w2 ⟨rfl, hb2⟩
        go_wp2_with fail
        go_roundw
        case rel => exact rel.out _ (by repeat' (first | with_reducible exact Below.refl _ _ | with_reducible assumption | with_reducible refine Below.drew ?_ | with_reducible refine bdrewN ?_ _ | with_reducible refine Below.alloc ?_ ?_ _ | with_reducible refine Below.setCell ?_ ?_ _ | with_reducible refine Below.trans ?_ (Below.mono (by assumption) ?_) | omega | (simp; done) | (simp; omega)))
        case measure => simp [intOf]; omega
      · go_wp2
        go_ret
        exact ⟨rfl, hB⟩
    · go_wp2
      go_ret
      exact ⟨rfl, hB⟩
end Go.Proofs.YtldmbneckcjonaaDoor
namespace Go.Proofs.YtldmbneckcjonaaDoor
open Go.RowKit Go.WideShapes Go.ChangeShapes Go.ChangeAt
set_option maxRecDepth 100000 in
theorem turned_lifted (os : Os) (started : os.Started) (H : Type) (enc : TypeId × Value → H) :
    ReturnsInHanded {} Tryd.checked os 8 .any (fun w args => (Rows.turnedSpec.pre enc Tryd.prog Tryd.f8 [] false w args ∧ laidMetH Tryd.prog laidL w) ∧ sizedMet enc Tryd.prog Tryd.f8 (OpenSpec.ofChange Rows.turnedSpec) false w args)
      (Rows.turnedSpec.post enc Tryd.prog Tryd.f8 false true false false) := by
  refine returnsInHanded_of_change_and (C := Tryd.checked) (X := fun w _ => laidMetH Tryd.prog laidL w) (fun _ _ _ hh h => h.of_heap hh) own started (by kernel_rfl) Tryd.func8
    (ChangeSpec.witness_shaped (enc := enc) (C := Tryd.checked) (os := os) (X := fun w _ => laidMetH Tryd.prog laidL w) false (World.doorLaid Tryd.prog 600 os) #[.slice none 0 0] 8 rfl (World.shaped_of_RefB (by kernel_rfl) (by kernel_rfl)) (by kernel_rfl) (by kernel_rfl) (by kernel_rfl) (door_met os _)) ?_
  intro W base args ds gs before hval hW _ _ hL _
  obtain ⟨A, len, cap, rfl, hl, hst, fin⟩ := law_shut (nm := "turned") (f := Tryd.f8) rfl rfl (fun j t v h1 h2 => .inr ⟨base, hval j t v h1 h2⟩) hW
  refine (Turned_any A len cap hl W (of_laid hL) (stepsIn_of hst)).mono fun e W' ⟨he, hw⟩ => ?_
  subst he
  exact ⟨_, rfl, fin W' hw⟩
theorem turned_holds : Rows.TurnedSaid :=
  OpenClaim.holds_of_wide_leaving 8 Tryd.f8 rfl rfl rfl rfl rfl rfl rfl ⟨rfl, rfl, rfl, rfl, rfl⟩ rfl rfl rfl rfl rfl (by kernel_rfl) Tryd.func8 (by kernel_rfl)
    (of_decide_eq_true (by kernel_rfl)) (by unfold Func.isWrapper; first | (rw [if_pos (by decide +kernel)]; kernel_rfl) | (rw [if_neg (by decide +kernel)]; exact ⟨rfl, rfl⟩))
    (fun os started H enc _ => leaving_of_handed (turned_lifted os started H enc))
theorem turned_card_holds : Rows.TurnedCardSaid :=
  holds_tied_goes .later [.funcs] true (true, "6c2333d7cfd43ffcebf9976d2fa59ef1805734a55d7131f269abed5f0ab20e77") false turned_holds (by kernel_rfl) turned_row_tie rfl ⟨rfl, rfl⟩ (by kernel_rfl) rfl
    (fun f fn hf hfn => by
      obtain rfl : f = 8 := Option.some.inj ((show Tryd.prog.funcNamed "softfloat/softfloatlaw.Turned" = some 8 by kernel_rfl).symm.trans hf) |>.symm
      obtain rfl : fn = Tryd.f8 := (Option.some.inj (Tryd.func8.symm.trans hfn)).symm
      exact ⟨by kernel_rfl, fun j t ht => by
        have hp : Tryd.f8.params = #[22] := rfl
        rw [hp] at ht
        have hm : t ∈ [22] := by simpa using Array.mem_of_getElem? ht
        have hall : ([22].all fun u => !Tryd.prog.wantsStandIn u) = true := by kernel_rfl
        exact (show Tryd.prog.wantsStandIn t = false by simpa using List.all_eq_true.1 hall t hm)⟩)
    (by kernel_rfl)
#print axioms turned_card_holds
end Go.Proofs.YtldmbneckcjonaaDoor
