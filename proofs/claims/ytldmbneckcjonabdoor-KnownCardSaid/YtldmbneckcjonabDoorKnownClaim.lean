/- Several texts in one: The law Known. · Known: for every script the law returns true and leaves its argument as it was. Condition: the table of operations is as the program's text lays it, which the card's tie shows. -/
import Derived.Test.YtldmbneckcjonabDoorGT
import Derived.Test.YtldmbneckcjonabDoorGF
import Derived.Test.YtldmbneckcjonabDoorGS
import Derived.Test.YtldmbneckcjonabDoorGJ
import Derived.Test.YtldmbneckcjonabDoorCards
set_option linter.unusedVariables false
set_option linter.unusedSimpArgs false
namespace Go.Proofs.YtldmbneckcjonabDoor
open Go.RowKit
attribute [local go_sem] few_yes few_no
set_option maxRecDepth 100000 in
set_option maxHeartbeats 1000000 in
theorem Known_any (A : Option Addr) (len cap : Nat) (hl : len ≤ maxLen) (w : World) (hT : TableAt w) (hst : StepsIn w A len) :
    Calls Tryd.prog 4 #[.slice A len cap] w fun e w' => e = .returned (.bool true) ∧ Below w.heap.size w w' := by
  unfold maxLen at hl
  have L0 := Lib.hid (fun W hT => lives_any W hT)
  have L1 := Lib.hid (fun W hT => rootf_any W hT)
  replace hT := Lib.hid hT
  replace hst := Lib.hid hst
  go_enter Tryd.func4, Tryd.ntmps4
  go_wp2_with (first | (go_at_call 5; refine (L0.out _ (hT.out.below (Nat.le_refl _) (by repeat' (first | with_reducible exact Below.refl _ _ | with_reducible assumption | with_reducible refine Below.drew ?_ | with_reducible refine bdrewN ?_ _ | with_reducible refine Below.alloc ?_ ?_ _ | with_reducible refine Below.setCell ?_ ?_ _ | with_reducible refine Below.trans ?_ (Below.mono (by assumption) ?_) | omega | (simp; done) | (simp; omega))))).mono ?_; rintro e w0_ ⟨rfl, hb0_⟩) | (go_at_call 6; refine (L1.out _ (hT.out.below (Nat.le_refl _) (by repeat' (first | with_reducible exact Below.refl _ _ | with_reducible assumption | with_reducible refine Below.drew ?_ | with_reducible refine bdrewN ?_ _ | with_reducible refine Below.alloc ?_ ?_ _ | with_reducible refine Below.setCell ?_ ?_ _ | with_reducible refine Below.trans ?_ (Below.mono (by assumption) ?_) | omega | (simp; done) | (simp; omega))))).mono ?_; rintro e w1_ ⟨rfl, hb1_⟩))
  have hB0 : Below w.heap.size w w1_ := hb0_.trans (hb1_.mono hb0_.size)
  go_loopw [4, 5] (fun i _ wr => ∃ k : Nat, k ≤ len ∧ i = .int .i64 k ∧ Below w.heap.size w wr) (fun i _ _ => len - (intOf i).toNat)
  case atStart => exact ⟨0, Nat.zero_le _, rfl, hB0⟩
  case round =>
    obtain ⟨k, hk, rfl, hB⟩ := hrel
    by_cases hlt : k < len
    · rcases few_or k with h60 | h60
      · obtain ⟨a, rfl, hblk, Q, hQ, hS⟩ := hst.out k hlt
        obtain ⟨kd, av, op, md, x, y, z, L, h0, h1, h2, h3, h4, h5, h6, h7, v0, v1, v2, v3, ux, uy, uz, hL⟩ := hS.below (Nat.le_refl _) hB (by rw [block_add']; exact hblk)
        have hT' := Lib.hid (hT.out.below (Nat.le_refl _) hB)
        have rel : ∀ wr', Below w.heap.size w wr' → ∃ k' : Nat, k' ≤ len ∧ Value.int .i64 ((k : Int) + 1) = .int .i64 k' ∧ Below w.heap.size w wr' := fun wr' h => ⟨k + 1, hlt, rfl, h⟩
        replace rel := Lib.hid rel
        have hBs := hB.size
        have hkp : (k : Int) < len := by omega
        obtain ⟨LA, Ln, Lc, rfl⟩ := hQ _ hL
        rw [add_at _ (by decide)] at h1 h2 h3 h4 h5 h6 h7
        clear hL hQ hS v0 v1 v2 v3 hst
        have F := Lib.hid (fun W hT => known_any op md x y z W hT)
        clear ux uy uz
        go_wp2_with fail
        refine (F.out _ (hT'.out.below (Nat.le_refl _) ?_)).mono ?_
        · repeat' (first | with_reducible exact Below.refl _ _ | with_reducible assumption | with_reducible refine Below.drew ?_ | with_reducible refine bdrewN ?_ _ | with_reducible refine Below.alloc ?_ ?_ _ | with_reducible refine Below.setCell ?_ ?_ _ | with_reducible refine Below.trans ?_ (Below.mono (by assumption) ?_) | omega | (simp; done) | (simp; omega))
        rintro e w2 ⟨rfl, hb2⟩
        go_wp2_with fail
        go_roundw
        case rel => exact rel.out _ (by repeat' (first | with_reducible exact Below.refl _ _ | with_reducible assumption | with_reducible refine Below.drew ?_ | with_reducible refine bdrewN ?_ _ | with_reducible refine Below.alloc ?_ ?_ _ | with_reducible refine Below.setCell ?_ ?_ _ | with_reducible refine Below.trans ?_ (Below.mono (by assumption) ?_) | omega | (simp; done) | (simp; omega)))
        case measure => simp [intOf]; omega
      · go_wp2
        go_ret
        exact ⟨rfl, hB⟩
    · go_wp2
      go_ret
      exact ⟨rfl, hB⟩
end Go.Proofs.YtldmbneckcjonabDoor
namespace Go.Proofs.YtldmbneckcjonabDoor
open Go.RowKit Go.WideShapes Go.ChangeShapes Go.ChangeAt
set_option maxRecDepth 100000 in
theorem known_lifted (os : Os) (started : os.Started) (H : Type) (enc : TypeId × Value → H) :
    ReturnsInHanded {} Tryd.checked os 4 .any (fun w args => (Rows.knownSpec.pre enc Tryd.prog Tryd.f4 [] false w args ∧ laidMetH Tryd.prog laidL w) ∧ sizedMet enc Tryd.prog Tryd.f4 (OpenSpec.ofChange Rows.knownSpec) false w args)
      (Rows.knownSpec.post enc Tryd.prog Tryd.f4 false true false false) := by
  refine returnsInHanded_of_change_and (C := Tryd.checked) (X := fun w _ => laidMetH Tryd.prog laidL w) (fun _ _ _ hh h => h.of_heap hh) own started (by kernel_rfl) Tryd.func4
    (ChangeSpec.witness_shaped (enc := enc) (C := Tryd.checked) (os := os) (X := fun w _ => laidMetH Tryd.prog laidL w) false (World.doorLaid Tryd.prog 600 os) #[.slice none 0 0] 8 rfl (World.shaped_of_RefB (by kernel_rfl) (by kernel_rfl)) (by kernel_rfl) (by kernel_rfl) (by kernel_rfl) (door_met os _)) ?_
  intro W base args ds gs before hval hW _ _ hL _
  obtain ⟨A, len, cap, rfl, hl, hst, fin⟩ := law_shut (nm := "known") (f := Tryd.f4) rfl rfl (fun j t v h1 h2 => .inr ⟨base, hval j t v h1 h2⟩) hW
  refine (Known_any A len cap hl W (of_laid hL) (stepsIn_of hst)).mono fun e W' ⟨he, hw⟩ => ?_
  subst he
  exact ⟨_, rfl, fin W' hw⟩
theorem known_holds : Rows.KnownSaid :=
  OpenClaim.holds_of_wide 4 Tryd.f4 rfl rfl rfl rfl rfl rfl rfl ⟨rfl, rfl, rfl, rfl, rfl⟩ rfl rfl rfl rfl rfl (by kernel_rfl) Tryd.func4 (by kernel_rfl)
    (of_decide_eq_true (by kernel_rfl)) (by unfold Func.isWrapper; first | (rw [if_pos (by decide +kernel)]; kernel_rfl) | (rw [if_neg (by decide +kernel)]; exact ⟨rfl, rfl⟩))
    (fun os started H enc _ => known_lifted os started H enc)
theorem known_card_holds : Rows.KnownCardSaid :=
  Claim7.holds_tied_plain_at .later [] [.funcs] true (true, "1970e608b908ec27207c76d8d82b3bc87de40aa713aeece044c859c4ba345d48") false known_holds (fun _ h => by cases h) (by kernel_rfl) (fun _ h => by cases h) known_row_tie rfl ⟨rfl, rfl⟩ (by kernel_rfl) rfl
    (fun f fn hf hfn => by
      obtain rfl : f = 4 := Option.some.inj ((show Tryd.prog.funcNamed "softfloat/softfloatlaw.Known" = some 4 by kernel_rfl).symm.trans hf) |>.symm
      obtain rfl : fn = Tryd.f4 := (Option.some.inj (Tryd.func4.symm.trans hfn)).symm
      exact ⟨by kernel_rfl, fun j t ht => by
        have hp : Tryd.f4.params = #[22] := rfl
        rw [hp] at ht
        have hm : t ∈ [22] := by simpa using Array.mem_of_getElem? ht
        have hall : ([22].all fun u => !Tryd.prog.wantsStandIn u) = true := by kernel_rfl
        exact (show Tryd.prog.wantsStandIn t = false by simpa using List.all_eq_true.1 hall t hm)⟩)
    (by kernel_rfl)
#print axioms known_card_holds
end Go.Proofs.YtldmbneckcjonabDoor
