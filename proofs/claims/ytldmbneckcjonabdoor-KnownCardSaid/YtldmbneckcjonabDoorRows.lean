/-
  NARROWER THAN 'FOR EVERY INPUT', by the rows' own cells (each row's printed sentence says how): Rounded: laid · Known: laid.
  DERIVED. THE GIVEN ROWS OF THIS SEAT. 2 by the template 'for every input the law returns true; each argument reads behind the call as it read before'; 0 by the template 'total and deterministic' (their statements: YtldmbneckcjonabDoorTotals.lean).
  GIVEN WITH THE SEED: the statements are not yours to turn. If you find one false, say at which input.
  Laid BY PROGRAM, IN A SANDBOX (cutbox-rows.mjs): the forced cells as the released guide's own fill.sh prints them over the translation f88446ee94a79bd1… (all of the seat's roots in one cut). By AI agents, Wed Nov 11 2026. No macro, syntax, notation, axiom, sorry.
-/
import Derived.Test.YtldmbneckcjonabDoorChecked
import GoSem.Claim
import GoSem.ClaimJoined
import GoSem.ClaimMapViews
import Derived.JoinedTies
import Derived.KernelRfl
namespace Go.Proofs.YtldmbneckcjonabDoor
/- THE CELL 'sum', in the pinned program and in every row, IS THE sha256 OF THE DUMP (.gsa) THAT YtldmbneckcjonabDoorProg.lean LOADS. Nothing in Lean hashes anything: it is a label: what it is worth is what the hold of that sum in a sandbox is worth. -/
noncomputable def Tryd.pinned : Pinned := { name := "ytldmbneckcjonabdoor", sum := "f88446ee94a79bd1a8a7f553b26957d9bcdf137050a8a77b690e2e07623e7c77", checked := Tryd.checked }
namespace Rows
def none {H : Type} : Left H := { results := [], args := [] }

/- WHAT THE LISTED PACKAGE-LEVEL VARIABLES READ AS WHEN THE CALL BEGINS. Each datum BY PROGRAM (the guide's laid-datum.mjs) off the statement by which the dump's own 'gosem.cut.vars' lays the variable. In a bare row this is a premise. The card (YtldmbneckcjonabDoorCards.lean) ties it to the program's text. -/
def laid_softfloat_soft_table {H : Type} : DataW H := .iface "func table" (.agg [.agg [.lit (.int .i64 0), .nil], .agg [.lit (.int .i64 2), .iface "func" (.lit (.string [115, 111, 102, 116, 102, 108, 111, 97, 116, 47, 115, 111, 102, 116, 46, 97, 100, 100]))], .agg [.lit (.int .i64 2), .iface "func" (.lit (.string [115, 111, 102, 116, 102, 108, 111, 97, 116, 47, 115, 111, 102, 116, 46, 115, 117, 98]))], .agg [.lit (.int .i64 2), .iface "func" (.lit (.string [115, 111, 102, 116, 102, 108, 111, 97, 116, 47, 115, 111, 102, 116, 46, 109, 117, 108]))], .agg [.lit (.int .i64 2), .iface "func" (.lit (.string [115, 111, 102, 116, 102, 108, 111, 97, 116, 47, 115, 111, 102, 116, 46, 100, 105, 118]))], .agg [.lit (.int .i64 3), .iface "func" (.lit (.string [115, 111, 102, 116, 102, 108, 111, 97, 116, 47, 115, 111, 102, 116, 46, 102, 109, 97]))], .agg [.lit (.int .i64 1), .iface "func" (.lit (.string [115, 111, 102, 116, 102, 108, 111, 97, 116, 47, 115, 111, 102, 116, 46, 115, 113, 114, 116]))], .agg [.lit (.int .i64 1), .iface "func" (.lit (.string [115, 111, 102, 116, 102, 108, 111, 97, 116, 47, 115, 111, 102, 116, 46, 114, 115, 113, 114, 116]))], .agg [.lit (.int .i64 1), .iface "func" (.lit (.string [115, 111, 102, 116, 102, 108, 111, 97, 116, 47, 115, 111, 102, 116, 46, 99, 98, 114, 116]))], .agg [.lit (.int .i64 2), .iface "func" (.lit (.string [115, 111, 102, 116, 102, 108, 111, 97, 116, 47, 115, 111, 102, 116, 46, 104, 121, 112, 111, 116]))], .agg [.lit (.int .i64 0), .iface "func" (.lit (.string [115, 111, 102, 116, 102, 108, 111, 97, 116, 47, 115, 111, 102, 116, 46, 116, 97, 98, 108, 101, 36, 49]))]])

/-- 'softfloatlaw.Rounded': WHATEVER THE INPUT: true; the input reads as it did. -/
def roundedSpec : ChangeSpec := { name := "rounded", fn := fun _ => fun
  | [d] => { results := [.lit (.bool true)], args := [d] }
  | _ => none }
def roundedRow : OpenClaim := { program := "ytldmbneckcjonabdoor", sum := "f88446ee94a79bd1a8a7f553b26957d9bcdf137050a8a77b690e2e07623e7c77", func := "softfloat/softfloatlaw.Rounded", spec := "rounded", unfollowed := true, recurses := true, named := ["softfloat/soft.table"], apart := false, laid := [("softfloat/soft.table", laid_softfloat_soft_table)] }
def RoundedSaid : Prop := roundedRow.holds Tryd.pinned (OpenSpec.ofChange roundedSpec)

/-- ITS FALSE NEIGHBOUR: 'it returns false'. Refute it at one input. -/
def roundedWrong : ChangeSpec := { name := "rounded", fn := fun _ => fun
  | [d] => { results := [.lit (.bool false)], args := [d] }
  | _ => none }
def RoundedWrongFalsely : Prop := roundedRow.holds Tryd.pinned (OpenSpec.ofChange roundedWrong)

/-- 'softfloatlaw.Known': WHATEVER THE INPUT: true; the input reads as it did. -/
def knownSpec : ChangeSpec := { name := "known", fn := fun _ => fun
  | [d] => { results := [.lit (.bool true)], args := [d] }
  | _ => none }
def knownRow : OpenClaim := { program := "ytldmbneckcjonabdoor", sum := "f88446ee94a79bd1a8a7f553b26957d9bcdf137050a8a77b690e2e07623e7c77", func := "softfloat/softfloatlaw.Known", spec := "known", unfollowed := true, recurses := true, named := ["softfloat/soft.table"], apart := false, laid := [("softfloat/soft.table", laid_softfloat_soft_table)] }
def KnownSaid : Prop := knownRow.holds Tryd.pinned (OpenSpec.ofChange knownSpec)

/-- ITS FALSE NEIGHBOUR: 'it returns false'. Refute it at one input. -/
def knownWrong : ChangeSpec := { name := "known", fn := fun _ => fun
  | [d] => { results := [.lit (.bool false)], args := [d] }
  | _ => none }
def KnownWrongFalsely : Prop := knownRow.holds Tryd.pinned (OpenSpec.ofChange knownWrong)

/- THE SECOND FORM. 'bulk': how many values and letters a reading holds, each counted each time it is reached (what is shared counts as often as it is met; a slice's spare places count too). A statement '..UptoSaid' is the law's where the arguments, and the package variables that the reading takes, are together of bulk at most 1048576: NARROWER than '..Said'. Prove '..Said' where nothing that the law and all that it calls make is longer than what came in: it says more and counts as full. Else prove '..UptoSaid'. A law counts once. -/
mutual
def uptoBulk {H : Type} : DataW H → Nat
  | .lit (.string bytes) => bytes.length + 1
  | .lit _ => 1
  | .nil => 1
  | .ptr d => uptoBulk d + 1
  | .slice elems spare => uptoBulkAll elems + uptoBulkAll spare + 1
  | .agg parts => uptoBulkAll parts + 1
  | .iface _ d => uptoBulk d + 1
  | .map entries => uptoBulkEntries entries + 1
  | .held _ => 1
def uptoBulkAll {H : Type} : List (DataW H) → Nat
  | [] => 0
  | d :: r => uptoBulk d + uptoBulkAll r
def uptoBulkEntries {H : Type} : List (Lit × DataW H) → Nat
  | [] => 0
  | x :: r => uptoBulkEntry x + uptoBulkEntries r
def uptoBulkEntry {H : Type} : Lit × DataW H → Nat
  | (.string bytes, d) => bytes.length + uptoBulk d + 1
  | (_, d) => uptoBulk d + 1
 end
def uptoSmall : (H : Type) → List (DataW H) → Bool := fun _ ds => decide (uptoBulkAll ds ≤ 1048576)
def OpenSpec.upto (s : _root_.Go.ChangeSpec) : _root_.Go.OpenSpec := { _root_.Go.OpenSpec.ofChange s with cond := some uptoSmall }

/-- 'softfloatlaw.Rounded', WHERE WHAT IT READS IS OF BULK AT MOST 1048576: true; the input reads as it did. -/
def roundedUptoRow : OpenClaim := { program := "ytldmbneckcjonabdoor", sum := "f88446ee94a79bd1a8a7f553b26957d9bcdf137050a8a77b690e2e07623e7c77", func := "softfloat/softfloatlaw.Rounded", spec := "rounded", unfollowed := true, recurses := true, named := ["softfloat/soft.table"], apart := false, laid := [("softfloat/soft.table", laid_softfloat_soft_table)], narrowed := true }
def RoundedUptoSaid : Prop := roundedUptoRow.holds Tryd.pinned (OpenSpec.upto roundedSpec)

/-- 'softfloatlaw.Known', WHERE WHAT IT READS IS OF BULK AT MOST 1048576: true; the input reads as it did. -/
def knownUptoRow : OpenClaim := { program := "ytldmbneckcjonabdoor", sum := "f88446ee94a79bd1a8a7f553b26957d9bcdf137050a8a77b690e2e07623e7c77", func := "softfloat/softfloatlaw.Known", spec := "known", unfollowed := true, recurses := true, named := ["softfloat/soft.table"], apart := false, laid := [("softfloat/soft.table", laid_softfloat_soft_table)], narrowed := true }
def KnownUptoSaid : Prop := knownUptoRow.holds Tryd.pinned (OpenSpec.upto knownSpec)

end Rows
end Go.Proofs.YtldmbneckcjonabDoor
