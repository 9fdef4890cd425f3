/-
  DERIVED. GIVEN WITH THE SEED: THE CARDS: each row of YtldmbneckcjonabDoorRows.lean that lists a variable, with what it lists TIED to the program's text (the seventh form; the later family's looks); each row that meets fmt, with fmt's text TOLD by the authors' own Lean function (tested against real Go, not proved from fmt's source: count such statements apart). THE CARD IS WHAT COUNTS. Prove the row's statement (the work); the ties are given (YtldmbneckcjonabDoorTie.lean); close each card by the builder's one call (the guide's Derived/Test/ToyasCard.lean, 'card_holds'). Laid BY PROGRAM, IN A SANDBOX (cutbox-door.mjs). By AI agents, Wed Nov 11 2026. No macro, syntax, notation, axiom, sorry.
-/
import Derived.Test.YtldmbneckcjonabDoorRows
import GoSem.ClaimSeven
namespace Go.Proofs.YtldmbneckcjonabDoor
namespace Rows

/-- THE TIED CARD OF 'softfloatlaw.Rounded'. -/
def roundedCard : Claim7 := { stood := { row := roundedRow, standIns := [], harness := (true, "1970e608b908ec27207c76d8d82b3bc87de40aa713aeece044c859c4ba345d48"), looks := false }, kinds := [], alts := [], laidByText := true, laidKinds := [.funcs], laidTests := true, laidLooks := .later }
def RoundedCardSaid : Prop := Claim7.holds Tryd.pinned (.plain (OpenSpec.ofChange roundedSpec)) roundedCard

/-- THE TIED CARD OF 'softfloatlaw.Known'. -/
def knownCard : Claim7 := { stood := { row := knownRow, standIns := [], harness := (true, "1970e608b908ec27207c76d8d82b3bc87de40aa713aeece044c859c4ba345d48"), looks := false }, kinds := [], alts := [], laidByText := true, laidKinds := [.funcs], laidTests := true, laidLooks := .later }
def KnownCardSaid : Prop := Claim7.holds Tryd.pinned (.plain (OpenSpec.ofChange knownSpec)) knownCard

/-- THE SECOND FORM's CARD OF 'softfloatlaw.Rounded'. -/
def roundedUptoCard : Claim7 := { stood := { row := roundedUptoRow, standIns := [], harness := (true, "1970e608b908ec27207c76d8d82b3bc87de40aa713aeece044c859c4ba345d48"), looks := false }, kinds := [], alts := [], laidByText := true, laidKinds := [.funcs], laidTests := true, laidLooks := .later }
def RoundedUptoCardSaid : Prop := Claim7.holds Tryd.pinned (.plain (OpenSpec.upto roundedSpec)) roundedUptoCard

/-- THE SECOND FORM's CARD OF 'softfloatlaw.Known'. -/
def knownUptoCard : Claim7 := { stood := { row := knownUptoRow, standIns := [], harness := (true, "1970e608b908ec27207c76d8d82b3bc87de40aa713aeece044c859c4ba345d48"), looks := false }, kinds := [], alts := [], laidByText := true, laidKinds := [.funcs], laidTests := true, laidLooks := .later }
def KnownUptoCardSaid : Prop := Claim7.holds Tryd.pinned (.plain (OpenSpec.upto knownSpec)) knownUptoCard
end Rows
end Go.Proofs.YtldmbneckcjonabDoor
