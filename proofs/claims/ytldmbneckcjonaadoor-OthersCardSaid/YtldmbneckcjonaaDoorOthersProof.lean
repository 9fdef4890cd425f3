/- Others: for every script the law returns true and leaves its argument as it was. Condition: the table of operations is as the program's text lays it, which the card's tie shows. -/
import Derived.Test.YtldmbneckcjonaaDoorOthers
import Derived.Test.YtldmbneckcjonaaDoorPipe
import Derived.Test.YtldmbneckcjonaaDoorCards
namespace Go.Proofs.YtldmbneckcjonaaDoor
open Go.RowKit Go.WideShapes Go.ChangeShapes Go.ChangeAt
set_option maxRecDepth 100000 in
theorem others_lifted (os : Os) (started : os.Started) (H : Type) (enc : TypeId × Value → H) :
    ReturnsInHanded {} Tryd.checked os 13 .any (fun w args => (Rows.othersSpec.pre enc Tryd.prog Tryd.f13 [] false w args ∧ laidMetH Tryd.prog laidL w) ∧ sizedMet enc Tryd.prog Tryd.f13 (OpenSpec.ofChange Rows.othersSpec) false w args)
      (Rows.othersSpec.post enc Tryd.prog Tryd.f13 false true false false) := by
  refine returnsInHanded_of_change_and (C := Tryd.checked) (X := fun w _ => laidMetH Tryd.prog laidL w) (fun _ _ _ hh h => h.of_heap hh) own started (by kernel_rfl) Tryd.func13
    (ChangeSpec.witness_shaped (enc := enc) (C := Tryd.checked) (os := os) (X := fun w _ => laidMetH Tryd.prog laidL w) false (World.doorLaid Tryd.prog 600 os) #[.slice none 0 0] 8 rfl (World.shaped_of_RefB (by kernel_rfl) (by kernel_rfl)) (by kernel_rfl) (by kernel_rfl) (by kernel_rfl) (door_met os _)) ?_
  intro W base args ds gs before hval hW _ _ hL _
  obtain ⟨A, len, cap, rfl, hl, hst, fin⟩ := law_shut (nm := "others") (f := Tryd.f13) rfl rfl (fun j t v h1 h2 => .inr ⟨base, hval j t v h1 h2⟩) hW
  refine (Others_any A len cap hl W (of_laid hL) (stepsIn_of hst)).mono fun e W' ⟨he, hw⟩ => ?_
  subst he
  exact ⟨_, rfl, fin W' hw⟩
theorem others_holds : Rows.OthersSaid :=
  OpenClaim.holds_of_wide_leaving 13 Tryd.f13 rfl rfl rfl rfl rfl rfl rfl ⟨rfl, rfl, rfl, rfl, rfl⟩ rfl rfl rfl rfl rfl (by kernel_rfl) Tryd.func13 (by kernel_rfl)
    (of_decide_eq_true (by kernel_rfl)) (by unfold Func.isWrapper; first | (rw [if_pos (by decide +kernel)]; kernel_rfl) | (rw [if_neg (by decide +kernel)]; exact ⟨rfl, rfl⟩))
    (fun os started H enc _ => leaving_of_handed (others_lifted os started H enc))
theorem others_card_holds : Rows.OthersCardSaid :=
  holds_tied_goes .later [.funcs] true (true, "6c2333d7cfd43ffcebf9976d2fa59ef1805734a55d7131f269abed5f0ab20e77") false others_holds (by kernel_rfl) others_row_tie rfl ⟨rfl, rfl⟩ (by kernel_rfl) rfl
    (fun f fn hf hfn => by
      obtain rfl : f = 13 := Option.some.inj ((show Tryd.prog.funcNamed "softfloat/softfloatlaw.Others" = some 13 by kernel_rfl).symm.trans hf) |>.symm
      obtain rfl : fn = Tryd.f13 := (Option.some.inj (Tryd.func13.symm.trans hfn)).symm
      exact ⟨by kernel_rfl, fun j t ht => by
        have hp : Tryd.f13.params = #[22] := rfl
        rw [hp] at ht
        have hm : t ∈ [22] := by simpa using Array.mem_of_getElem? ht
        have hall : ([22].all fun u => !Tryd.prog.wantsStandIn u) = true := by kernel_rfl
        exact (show Tryd.prog.wantsStandIn t = false by simpa using List.all_eq_true.1 hall t hm)⟩)
    (by kernel_rfl)
#print axioms others_card_holds
end Go.Proofs.YtldmbneckcjonaaDoor
