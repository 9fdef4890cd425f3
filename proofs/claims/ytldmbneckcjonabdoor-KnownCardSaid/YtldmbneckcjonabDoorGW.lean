/- Several texts in one: soft.Do, of every operation that computes: what it answers. -/
import Derived.Test.YtldmbneckcjonabDoorGX
import Derived.Test.YtldmbneckcjonabDoorGR
import Derived.Test.YtldmbneckcjonabDoorGO
import Derived.Test.YtldmbneckcjonabDoorGQ
import Derived.Test.YtldmbneckcjonabDoorGL
import Derived.Test.YtldmbneckcjonabDoorGM
set_option linter.unusedVariables false
set_option linter.unusedSimpArgs false
namespace Go.Proofs.YtldmbneckcjonabDoor
open Go.RowKit
/-- What operation o answers where no NaN decides. -/
noncomputable def opS (o m a b c : Nat) : Nat × Nat :=
  if o = 1 then addS m a b else if o = 2 then addS m a (turnN b) else if o = 3 then mulS m a b else if o = 4 then divS m a b else if o = 5 then fmaS m a b c else if o = 6 then sqrtS m a else if o = 7 then rsqrtS m a else if o = 8 then cbrtS m a else hypS m a b
noncomputable def doS (o m a b c : Nat) : Nat × Nat := if nanS a b c (nOps o) then (nanR o a b c (nOps o)).2 else opS o m a b c
theorem nanK2 {a b c : Nat} (h : nanS a b c 2 = false) : kindN a < 4 ∧ kindN b < 4 := by
  have e : nanS a b c 2 = ((false || decide (4 ≤ kindN a)) || decide (4 ≤ kindN b)) := rfl
  rw [e, Bool.or_eq_false_iff, Bool.or_eq_false_iff, decide_eq_false_iff_not, decide_eq_false_iff_not] at h
  omega
theorem nanK3 {a b c : Nat} (h : nanS a b c 3 = false) : kindN a < 4 ∧ kindN b < 4 ∧ kindN c < 4 := by
  have e : nanS a b c 3 = (((false || decide (4 ≤ kindN a)) || decide (4 ≤ kindN b)) || decide (4 ≤ kindN c)) := rfl
  rw [e, Bool.or_eq_false_iff, Bool.or_eq_false_iff, Bool.or_eq_false_iff, decide_eq_false_iff_not, decide_eq_false_iff_not, decide_eq_false_iff_not] at h
  omega
theorem nanK_no {a b c : Nat} (ka : kindN a < 4) (kb : kindN b < 4) : nanS a b c 2 = false := by
  have e : nanS a b c 2 = ((false || decide (4 ≤ kindN a)) || decide (4 ≤ kindN b)) := rfl
  rw [e, decide_eq_false (by omega), decide_eq_false (by omega)]; rfl
theorem opS_1 (m a b c : Nat) : opS 1 m a b c = addS m a b := by unfold opS;  rw [if_pos rfl]
theorem opS_2 (m a b c : Nat) : opS 2 m a b c = addS m a (turnN b) := by unfold opS; rw [if_neg (by decide)]; rw [if_pos rfl]
theorem opS_3 (m a b c : Nat) : opS 3 m a b c = mulS m a b := by unfold opS; rw [if_neg (by decide), if_neg (by decide)]; rw [if_pos rfl]
theorem opS_4 (m a b c : Nat) : opS 4 m a b c = divS m a b := by unfold opS; rw [if_neg (by decide), if_neg (by decide)]; rw [if_neg (by decide)]; rw [if_pos rfl]
theorem opS_5 (m a b c : Nat) : opS 5 m a b c = fmaS m a b c := by unfold opS; rw [if_neg (by decide), if_neg (by decide)]; rw [if_neg (by decide), if_neg (by decide)]; rw [if_pos rfl]
theorem opS_6 (m a b c : Nat) : opS 6 m a b c = sqrtS m a := by unfold opS; rw [if_neg (by decide), if_neg (by decide)]; rw [if_neg (by decide), if_neg (by decide)]; rw [if_neg (by decide)]; rw [if_pos rfl]
theorem opS_7 (m a b c : Nat) : opS 7 m a b c = rsqrtS m a := by unfold opS; rw [if_neg (by decide), if_neg (by decide)]; rw [if_neg (by decide), if_neg (by decide)]; rw [if_neg (by decide), if_neg (by decide)]; rw [if_pos rfl]
theorem opS_8 (m a b c : Nat) : opS 8 m a b c = cbrtS m a := by unfold opS; rw [if_neg (by decide), if_neg (by decide)]; rw [if_neg (by decide), if_neg (by decide)]; rw [if_neg (by decide), if_neg (by decide)]; rw [if_neg (by decide)]; rw [if_pos rfl]
theorem opS_9 (m a b c : Nat) : opS 9 m a b c = hypS m a b := by unfold opS; rw [if_neg (by decide), if_neg (by decide)]; rw [if_neg (by decide), if_neg (by decide)]; rw [if_neg (by decide), if_neg (by decide)]; rw [if_neg (by decide)]; rw [if_neg (by decide)]
theorem Do_any {o m a b c : Nat} (h1 : 1 ≤ o) (h2 : o ≤ 9) (hm : m < 5) (ua : U64 a) (ub : U64 b) (uc : U64 c) (W : World) (hT : TableAt W) : Calls Tryd.prog 9 #[REC o m a b c] W (SoftOut (doS o m a b c).1 (doS o m a b c).2 false W) := by
  unfold doS
  cases hN : nanS a b c (nOps o) with
  | true =>
    have hs := nanR_some (op := o) hN
    have hR : nanR o a b c (nOps o) = (true, (nanR o a b c (nOps o)).2.1, (nanR o a b c (nOps o)).2.2) := by rw [← hs]
    rw [if_pos rfl]
    exact Do_nan o m a b c _ _ (by omega) (by omega) (by omega) ua ub uc hR W hT
  | false =>
    have hR := nanR_no (op := o) hN
    rw [if_neg (by decide)]
    rcases (show o = 1 ∨ o = 2 ∨ o = 3 ∨ o = 4 ∨ o = 5 ∨ o = 6 ∨ o = 7 ∨ o = 8 ∨ o = 9 by omega) with rfl | rfl | rfl | rfl | rfl | rfl | rfl | rfl | rfl
    · obtain ⟨ka, kb⟩ := nanK2 hN
      rw [opS_1]
      exact Do_go 1 m a b c _ _ (fun args w => Tryd.call33 args w) (by decide) (by decide) (by omega) ua ub uc hR (fun W => add_any 1 m a b c hm ua ub ka kb W) W hT
    · obtain ⟨ka, kb⟩ := nanK2 hN
      rw [opS_2]
      exact Do_go 2 m a b c _ _ (fun args w => Tryd.call34 args w) (by decide) (by decide) (by omega) ua ub uc hR (fun W => sub_any 2 m a b c hm ua ub ka kb W) W hT
    · obtain ⟨ka, kb⟩ := nanK2 hN
      rw [opS_3]
      exact Do_go 3 m a b c _ _ (fun args w => Tryd.call35 args w) (by decide) (by decide) (by omega) ua ub uc hR (fun W => mul_any 3 m a b c hm ua ub ka kb W) W hT
    · obtain ⟨ka, kb⟩ := nanK2 hN
      rw [opS_4]
      exact Do_go 4 m a b c _ _ (fun args w => Tryd.call36 args w) (by decide) (by decide) (by omega) ua ub uc hR (fun W => div_any 4 m a b c hm ua ub ka kb W) W hT
    · obtain ⟨ka, kb, kc⟩ := nanK3 hN
      rw [opS_5]
      exact Do_go 5 m a b c _ _ (fun args w => Tryd.call37 args w) (by decide) (by decide) (by omega) ua ub uc hR (fun W => fma_any 5 m a b c hm ua ub uc ka kb kc W) W hT
    · rw [opS_6]
      exact Do_go 6 m a b c _ _ (fun args w => Tryd.call38 args w) (by decide) (by decide) (by omega) ua ub uc hR (fun W => sqrt_any 6 m a b c hm ua W) W hT
    · rw [opS_7]
      exact Do_go 7 m a b c _ _ (fun args w => Tryd.call39 args w) (by decide) (by decide) (by omega) ua ub uc hR (fun W => rsqrt_any 7 m a b c hm ua W) W hT
    · rw [opS_8]
      exact Do_go 8 m a b c _ _ (fun args w => Tryd.call40 args w) (by decide) (by decide) (by omega) ua ub uc hR (fun W => cbrt_any 8 m a b c hm ua W) W hT
    · rw [opS_9]
      exact Do_go 9 m a b c _ _ (fun args w => Tryd.call41 args w) (by decide) (by decide) (by omega) ua ub uc hR (fun W => hyp_any 9 m a b c hm ua ub W) W hT
end Go.Proofs.YtldmbneckcjonabDoor
