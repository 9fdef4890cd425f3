/- Classes: for every script the law returns true and leaves its argument as it was. No conditions. -/
import Derived.Test.YtldmbneckcjonaaShut
import Derived.Test.YtldmbneckcjonaaClasses
namespace Go.Proofs.Ytldmbneckcjonaa
open Go.RowKit Go.WideShapes Go.ChangeShapes Go.ChangeAt
theorem stepsA_of {W : World} {Q : Value → Prop} {A : Option Addr} {len : Nat} (h : ∀ i, i < len → ∃ a, A = some a ∧ a.block < W.heap.size ∧ StepAt W Q (a.add (i * 8))) : StepsA W A len := by
  intro i hi
  obtain ⟨a, rfl, _, kd, av, op, md, x, y, z, L, _, _, _, _, h4, _, _, _, _, _, _, _, hx, _⟩ := h i hi
  exact ⟨a, x, rfl, h4, hx⟩
set_option maxRecDepth 100000 in
theorem classes_lifted (os : Os) (started : os.Started) (H : Type) (enc : TypeId × Value → H) :
    ReturnsInHanded {} Try.checked os 3 .any (Rows.classesSpec.pre6 enc Try.prog Try.f3 Rows.classesRow.domain false) (Rows.classesSpec.post enc Try.prog Try.f3 false true false false) := by
  refine returnsInHanded_of_change (C := Try.checked) own started (by kernel_rfl) Try.func3
    (ChangeSpec.witness6 (enc := enc) (C := Try.checked) false ⟨#[], #[.slice none 0 0], []⟩ 8 (by kernel_rfl) (by kernel_rfl) (by kernel_rfl) (by kernel_rfl)) ?_
  intro W base args ds gs before hval hW hcnd _
  obtain ⟨A, len, cap, rfl, hl, hst, fin⟩ := law_shut (nm := "classes") (f := Try.f3) rfl rfl (fun j t v h1 h2 => .inr ⟨base, hval j t v h1 h2⟩) hW
  refine (Classes_any A len cap hl W (stepsA_of hst)).mono fun e W' ⟨he, hw⟩ => ?_
  subst he; subst hw
  exact ⟨_, rfl, fin W (Below.refl _ _)⟩
theorem classes_holds : Rows.ClassesSaid :=
  OpenClaim.holds_of_wide 3 Try.f3 rfl rfl rfl rfl rfl rfl rfl ⟨rfl, rfl, rfl, rfl, rfl⟩ rfl rfl rfl rfl rfl (by kernel_rfl) Try.func3 (by kernel_rfl)
    (of_decide_eq_true (by kernel_rfl)) (by unfold Func.isWrapper; first | (rw [if_pos (by decide +kernel)]; kernel_rfl) | (rw [if_neg (by decide +kernel)]; exact ⟨rfl, rfl⟩))
    (fun os started H enc _ => classes_lifted os started H enc)
#print axioms classes_holds
end Go.Proofs.Ytldmbneckcjonaa
