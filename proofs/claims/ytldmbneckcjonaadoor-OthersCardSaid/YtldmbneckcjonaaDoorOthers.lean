/- What the law Others answers: true, of every script. -/
import Derived.Test.YtldmbneckcjonaaDoorOf
namespace Go.Proofs.YtldmbneckcjonaaDoor
open Go.RowKit
theorem agree_bad {o m a b c : Nat} (ho : o < 256) (h : o = 0 ∨ 11 ≤ o ∨ 5 ≤ m) : Agree o m a b c := by
  refine ⟨0, 0, true, fun W _ => ?_, fun W => ?_, by decide⟩
  · by_cases h0 : o = 0
    · exact Do_zero o m a b c (by rw [h0]; rfl) W
    · by_cases h11 : 11 ≤ o
      · exact Do_many o m a b c h11 ho W
      · exact Do_mode o m a b c h0 (by omega) (by omega) W
  · by_cases h0 : o = 0
    · exact rDo_zero o m a b c (by rw [h0]; rfl) W
    · by_cases h11 : 11 ≤ o
      · exact rDo_many o m a b c h11 W
      · exact rDo_mode o m a b c h0 (by omega) (by omega) W
theorem agree_clear {m a b c : Nat} (h : ¬ 5 ≤ m) (ua : U64 a) (ub : U64 b) (uc : U64 c) : Agree 10 m a b c :=
  ⟨0, 0, false, fun W hT => Do_clear m a b c h ua ub uc W hT, fun W => rDo_clear m a b c h W, by decide⟩
theorem agree_others {o m a b c : Nat} (ho : o < 256) (h : o = 0 ∨ 10 ≤ o) (ua : U64 a) (ub : U64 b) (uc : U64 c) : Agree o m a b c := by
  by_cases hb : o = 0 ∨ 11 ≤ o ∨ 5 ≤ m
  · exact agree_bad ho hb
  · obtain rfl : o = 10 := by omega
    exact agree_clear (by omega) ua ub uc
set_option maxRecDepth 100000 in
set_option maxHeartbeats 400000 in
theorem Others_any (A : Option Addr) (len cap : Nat) (hl : len ≤ maxLen) (w : World) (hT : TableAt w) (hst : StepsIn w A len) :
    Calls Tryd.prog 13 #[.slice A len cap] w fun e w' => e = .returned (.bool true) ∧ Below w.heap.size w w' := by
  have C1 := Lib.hid (fun W hT hst => of_any A len cap 0 0 hl W hT hst fun o m a b c ho _ h1 h2 ua ub uc => agree_others ho (by omega) ua ub uc)
  have C2 := Lib.hid (fun W hT hst => of_any A len cap 10 255 hl W hT hst fun o m a b c ho _ h1 h2 ua ub uc => agree_others ho (by omega) ua ub uc)
  have hst2 := Lib.hid (fun (W : World) (hb : Below w.heap.size w W) => stepsIn_below hst hb)
  replace hst := Lib.hid hst
  replace hT := Lib.hid hT
  clear hl
  go_enter Tryd.func13, Tryd.ntmps13
  go_wp2_with fail
  refine (C1.out _ hT.out hst.out).mono ?_
  rintro e w1 ⟨rfl, hb1⟩
  go_wp2_with fail
  refine (C2.out _ (hT.out.below (Nat.le_refl _) hb1) (hst2.out _ hb1)).mono ?_
  rintro e w2 ⟨rfl, hb2⟩
  go_wp2_with fail
  go_ret
  exact ⟨rfl, hb1.trans (hb2.mono hb1.size)⟩
end Go.Proofs.YtldmbneckcjonaaDoor
