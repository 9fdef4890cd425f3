/-
  DERIVED. GIVEN WITH THE SEED: THE CARDS: each row of YtldmbneckcjonaaDoorRows.lean that lists a variable, with what it lists TIED to the program's text (the seventh form; the later family's looks); each row that meets fmt, with fmt's text TOLD by the authors' own Lean function (tested against real Go, not proved from fmt's source: count such statements apart). THE CARD IS WHAT COUNTS. Prove the row's statement (the work); the ties are given (YtldmbneckcjonaaDoorTie.lean); close each card by the builder's one call (the guide's Derived/Test/ToyasCard.lean, 'card_holds'). Laid BY PROGRAM, IN A SANDBOX (cutbox-door.mjs). By AI agents, Wed Nov 11 2026. No macro, syntax, notation, axiom, sorry.
-/
import Derived.Test.YtldmbneckcjonaaDoorRows
import GoSem.ClaimSeven
namespace Go.Proofs.YtldmbneckcjonaaDoor
namespace Rows

/-- THE TIED CARD OF 'softfloatlaw.Sums'. -/
def sumsCard : Claim7 := { stood := { row := sumsRow, standIns := [], harness := (true, "6c2333d7cfd43ffcebf9976d2fa59ef1805734a55d7131f269abed5f0ab20e77"), looks := false }, kinds := [], alts := [], goes := true, laidByText := true, laidKinds := [.funcs], laidTests := true, laidLooks := .later }
def SumsCardSaid : Prop := Claim7.holds Tryd.pinned (.plain (OpenSpec.ofChange sumsSpec)) sumsCard

/-- THE TIED CARD OF 'softfloatlaw.Products'. -/
def productsCard : Claim7 := { stood := { row := productsRow, standIns := [], harness := (true, "6c2333d7cfd43ffcebf9976d2fa59ef1805734a55d7131f269abed5f0ab20e77"), looks := false }, kinds := [], alts := [], goes := true, laidByText := true, laidKinds := [.funcs], laidTests := true, laidLooks := .later }
def ProductsCardSaid : Prop := Claim7.holds Tryd.pinned (.plain (OpenSpec.ofChange productsSpec)) productsCard

/-- THE TIED CARD OF 'softfloatlaw.Runs'. -/
def runsCard : Claim7 := { stood := { row := runsRow, standIns := [], harness := (true, "6c2333d7cfd43ffcebf9976d2fa59ef1805734a55d7131f269abed5f0ab20e77"), looks := false }, kinds := [], alts := [], goes := true, laidByText := true, laidKinds := [.funcs], laidTests := true, laidLooks := .later }
def RunsCardSaid : Prop := Claim7.holds Tryd.pinned (.plain (OpenSpec.ofChange runsSpec)) runsCard

/-- THE TIED CARD OF 'softfloatlaw.All'. -/
def allCard : Claim7 := { stood := { row := allRow, standIns := [], harness := (true, "6c2333d7cfd43ffcebf9976d2fa59ef1805734a55d7131f269abed5f0ab20e77"), looks := false }, kinds := [], alts := [], goes := true, laidByText := true, laidKinds := [.funcs], laidTests := true, laidLooks := .later }
def AllCardSaid : Prop := Claim7.holds Tryd.pinned (.plain (OpenSpec.ofChange allSpec)) allCard

/-- THE TIED CARD OF 'softfloatlaw.Around'. -/
def aroundCard : Claim7 := { stood := { row := aroundRow, standIns := [], harness := (true, "6c2333d7cfd43ffcebf9976d2fa59ef1805734a55d7131f269abed5f0ab20e77"), looks := false }, kinds := [], alts := [], goes := true, laidByText := true, laidKinds := [.funcs], laidTests := true, laidLooks := .later }
def AroundCardSaid : Prop := Claim7.holds Tryd.pinned (.plain (OpenSpec.ofChange aroundSpec)) aroundCard

/-- THE TIED CARD OF 'softfloatlaw.Turned'. -/
def turnedCard : Claim7 := { stood := { row := turnedRow, standIns := [], harness := (true, "6c2333d7cfd43ffcebf9976d2fa59ef1805734a55d7131f269abed5f0ab20e77"), looks := false }, kinds := [], alts := [], goes := true, laidByText := true, laidKinds := [.funcs], laidTests := true, laidLooks := .later }
def TurnedCardSaid : Prop := Claim7.holds Tryd.pinned (.plain (OpenSpec.ofChange turnedSpec)) turnedCard

/-- THE TIED CARD OF 'softfloatlaw.Quotients'. -/
def quotientsCard : Claim7 := { stood := { row := quotientsRow, standIns := [], harness := (true, "6c2333d7cfd43ffcebf9976d2fa59ef1805734a55d7131f269abed5f0ab20e77"), looks := false }, kinds := [], alts := [], goes := true, laidByText := true, laidKinds := [.funcs], laidTests := true, laidLooks := .later }
def QuotientsCardSaid : Prop := Claim7.holds Tryd.pinned (.plain (OpenSpec.ofChange quotientsSpec)) quotientsCard

/-- THE TIED CARD OF 'softfloatlaw.Fused'. -/
def fusedCard : Claim7 := { stood := { row := fusedRow, standIns := [], harness := (true, "6c2333d7cfd43ffcebf9976d2fa59ef1805734a55d7131f269abed5f0ab20e77"), looks := false }, kinds := [], alts := [], goes := true, laidByText := true, laidKinds := [.funcs], laidTests := true, laidLooks := .later }
def FusedCardSaid : Prop := Claim7.holds Tryd.pinned (.plain (OpenSpec.ofChange fusedSpec)) fusedCard

/-- THE TIED CARD OF 'softfloatlaw.Roots'. -/
def rootsCard : Claim7 := { stood := { row := rootsRow, standIns := [], harness := (true, "6c2333d7cfd43ffcebf9976d2fa59ef1805734a55d7131f269abed5f0ab20e77"), looks := false }, kinds := [], alts := [], goes := true, laidByText := true, laidKinds := [.funcs], laidTests := true, laidLooks := .later }
def RootsCardSaid : Prop := Claim7.holds Tryd.pinned (.plain (OpenSpec.ofChange rootsSpec)) rootsCard

/-- THE TIED CARD OF 'softfloatlaw.Sides'. -/
def sidesCard : Claim7 := { stood := { row := sidesRow, standIns := [], harness := (true, "6c2333d7cfd43ffcebf9976d2fa59ef1805734a55d7131f269abed5f0ab20e77"), looks := false }, kinds := [], alts := [], goes := true, laidByText := true, laidKinds := [.funcs], laidTests := true, laidLooks := .later }
def SidesCardSaid : Prop := Claim7.holds Tryd.pinned (.plain (OpenSpec.ofChange sidesSpec)) sidesCard

/-- THE TIED CARD OF 'softfloatlaw.Others'. -/
def othersCard : Claim7 := { stood := { row := othersRow, standIns := [], harness := (true, "6c2333d7cfd43ffcebf9976d2fa59ef1805734a55d7131f269abed5f0ab20e77"), looks := false }, kinds := [], alts := [], goes := true, laidByText := true, laidKinds := [.funcs], laidTests := true, laidLooks := .later }
def OthersCardSaid : Prop := Claim7.holds Tryd.pinned (.plain (OpenSpec.ofChange othersSpec)) othersCard

/-- THE SECOND FORM's CARD OF 'softfloatlaw.Sums'. -/
def sumsUptoCard : Claim7 := { stood := { row := sumsUptoRow, standIns := [], harness := (true, "6c2333d7cfd43ffcebf9976d2fa59ef1805734a55d7131f269abed5f0ab20e77"), looks := false }, kinds := [], alts := [], goes := true, laidByText := true, laidKinds := [.funcs], laidTests := true, laidLooks := .later }
def SumsUptoCardSaid : Prop := Claim7.holds Tryd.pinned (.plain (OpenSpec.upto sumsSpec)) sumsUptoCard

/-- THE SECOND FORM's CARD OF 'softfloatlaw.Products'. -/
def productsUptoCard : Claim7 := { stood := { row := productsUptoRow, standIns := [], harness := (true, "6c2333d7cfd43ffcebf9976d2fa59ef1805734a55d7131f269abed5f0ab20e77"), looks := false }, kinds := [], alts := [], goes := true, laidByText := true, laidKinds := [.funcs], laidTests := true, laidLooks := .later }
def ProductsUptoCardSaid : Prop := Claim7.holds Tryd.pinned (.plain (OpenSpec.upto productsSpec)) productsUptoCard

/-- THE SECOND FORM's CARD OF 'softfloatlaw.Runs'. -/
def runsUptoCard : Claim7 := { stood := { row := runsUptoRow, standIns := [], harness := (true, "6c2333d7cfd43ffcebf9976d2fa59ef1805734a55d7131f269abed5f0ab20e77"), looks := false }, kinds := [], alts := [], goes := true, laidByText := true, laidKinds := [.funcs], laidTests := true, laidLooks := .later }
def RunsUptoCardSaid : Prop := Claim7.holds Tryd.pinned (.plain (OpenSpec.upto runsSpec)) runsUptoCard

/-- THE SECOND FORM's CARD OF 'softfloatlaw.All'. -/
def allUptoCard : Claim7 := { stood := { row := allUptoRow, standIns := [], harness := (true, "6c2333d7cfd43ffcebf9976d2fa59ef1805734a55d7131f269abed5f0ab20e77"), looks := false }, kinds := [], alts := [], goes := true, laidByText := true, laidKinds := [.funcs], laidTests := true, laidLooks := .later }
def AllUptoCardSaid : Prop := Claim7.holds Tryd.pinned (.plain (OpenSpec.upto allSpec)) allUptoCard

/-- THE SECOND FORM's CARD OF 'softfloatlaw.Around'. -/
def aroundUptoCard : Claim7 := { stood := { row := aroundUptoRow, standIns := [], harness := (true, "6c2333d7cfd43ffcebf9976d2fa59ef1805734a55d7131f269abed5f0ab20e77"), looks := false }, kinds := [], alts := [], goes := true, laidByText := true, laidKinds := [.funcs], laidTests := true, laidLooks := .later }
def AroundUptoCardSaid : Prop := Claim7.holds Tryd.pinned (.plain (OpenSpec.upto aroundSpec)) aroundUptoCard

/-- THE SECOND FORM's CARD OF 'softfloatlaw.Turned'. -/
def turnedUptoCard : Claim7 := { stood := { row := turnedUptoRow, standIns := [], harness := (true, "6c2333d7cfd43ffcebf9976d2fa59ef1805734a55d7131f269abed5f0ab20e77"), looks := false }, kinds := [], alts := [], goes := true, laidByText := true, laidKinds := [.funcs], laidTests := true, laidLooks := .later }
def TurnedUptoCardSaid : Prop := Claim7.holds Tryd.pinned (.plain (OpenSpec.upto turnedSpec)) turnedUptoCard

/-- THE SECOND FORM's CARD OF 'softfloatlaw.Quotients'. -/
def quotientsUptoCard : Claim7 := { stood := { row := quotientsUptoRow, standIns := [], harness := (true, "6c2333d7cfd43ffcebf9976d2fa59ef1805734a55d7131f269abed5f0ab20e77"), looks := false }, kinds := [], alts := [], goes := true, laidByText := true, laidKinds := [.funcs], laidTests := true, laidLooks := .later }
def QuotientsUptoCardSaid : Prop := Claim7.holds Tryd.pinned (.plain (OpenSpec.upto quotientsSpec)) quotientsUptoCard

/-- THE SECOND FORM's CARD OF 'softfloatlaw.Fused'. -/
def fusedUptoCard : Claim7 := { stood := { row := fusedUptoRow, standIns := [], harness := (true, "6c2333d7cfd43ffcebf9976d2fa59ef1805734a55d7131f269abed5f0ab20e77"), looks := false }, kinds := [], alts := [], goes := true, laidByText := true, laidKinds := [.funcs], laidTests := true, laidLooks := .later }
def FusedUptoCardSaid : Prop := Claim7.holds Tryd.pinned (.plain (OpenSpec.upto fusedSpec)) fusedUptoCard

/-- THE SECOND FORM's CARD OF 'softfloatlaw.Roots'. -/
def rootsUptoCard : Claim7 := { stood := { row := rootsUptoRow, standIns := [], harness := (true, "6c2333d7cfd43ffcebf9976d2fa59ef1805734a55d7131f269abed5f0ab20e77"), looks := false }, kinds := [], alts := [], goes := true, laidByText := true, laidKinds := [.funcs], laidTests := true, laidLooks := .later }
def RootsUptoCardSaid : Prop := Claim7.holds Tryd.pinned (.plain (OpenSpec.upto rootsSpec)) rootsUptoCard

/-- THE SECOND FORM's CARD OF 'softfloatlaw.Sides'. -/
def sidesUptoCard : Claim7 := { stood := { row := sidesUptoRow, standIns := [], harness := (true, "6c2333d7cfd43ffcebf9976d2fa59ef1805734a55d7131f269abed5f0ab20e77"), looks := false }, kinds := [], alts := [], goes := true, laidByText := true, laidKinds := [.funcs], laidTests := true, laidLooks := .later }
def SidesUptoCardSaid : Prop := Claim7.holds Tryd.pinned (.plain (OpenSpec.upto sidesSpec)) sidesUptoCard

/-- THE SECOND FORM's CARD OF 'softfloatlaw.Others'. -/
def othersUptoCard : Claim7 := { stood := { row := othersUptoRow, standIns := [], harness := (true, "6c2333d7cfd43ffcebf9976d2fa59ef1805734a55d7131f269abed5f0ab20e77"), looks := false }, kinds := [], alts := [], goes := true, laidByText := true, laidKinds := [.funcs], laidTests := true, laidLooks := .later }
def OthersUptoCardSaid : Prop := Claim7.holds Tryd.pinned (.plain (OpenSpec.upto othersSpec)) othersUptoCard
end Rows
end Go.Proofs.YtldmbneckcjonaaDoor
