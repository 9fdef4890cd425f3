/-
  NARROWER THAN 'FOR EVERY INPUT', by the rows' own cells (each row's printed sentence says how): Sums: laid · Products: laid · Runs: laid · All: laid · Around: laid · Turned: laid · Quotients: laid · Fused: laid · Roots: laid · Sides: laid · Others: laid.
  DERIVED. THE GIVEN ROWS OF THIS SEAT. 11 by the template 'for every input the law returns true; each argument reads behind the call as it read before'; 0 by the template 'total and deterministic' (their statements: YtldmbneckcjonaaDoorTotals.lean).
  GIVEN WITH THE SEED: the statements are not yours to turn. If you find one false, say at which input.
  Laid BY PROGRAM, IN A SANDBOX (cutbox-rows.mjs): the forced cells as the released guide's own fill.sh prints them over the translation 084fab130659718e… (all of the seat's roots in one cut). By AI agents, Wed Nov 11 2026. No macro, syntax, notation, axiom, sorry.
-/
import Derived.Test.YtldmbneckcjonaaDoorChecked
import GoSem.Claim
import GoSem.ClaimJoined
import GoSem.ClaimMapViews
import Derived.JoinedTies
import Derived.KernelRfl
namespace Go.Proofs.YtldmbneckcjonaaDoor
/- THE CELL 'sum', in the pinned program and in every row, IS THE sha256 OF THE DUMP (.gsa) THAT YtldmbneckcjonaaDoorProg.lean LOADS. Nothing in Lean hashes anything: it is a label: what it is worth is what the hold of that sum in a sandbox is worth. -/
noncomputable def Tryd.pinned : Pinned := { name := "ytldmbneckcjonaadoor", sum := "084fab130659718ef3bc6cd500c252db9e729dcdf0cb5b9901c0b95acc48bbae", checked := Tryd.checked }
namespace Rows
def none {H : Type} : Left H := { results := [], args := [] }

/- WHAT THE LISTED PACKAGE-LEVEL VARIABLES READ AS WHEN THE CALL BEGINS. Each datum BY PROGRAM (the guide's laid-datum.mjs) off the statement by which the dump's own 'gosem.cut.vars' lays the variable. In a bare row this is a premise. The card (YtldmbneckcjonaaDoorCards.lean) ties it to the program's text. -/
def laid_softfloat_soft_table {H : Type} : DataW H := .iface "func table" (.agg [.agg [.lit (.int .i64 0), .nil], .agg [.lit (.int .i64 2), .iface "func" (.lit (.string [115, 111, 102, 116, 102, 108, 111, 97, 116, 47, 115, 111, 102, 116, 46, 97, 100, 100]))], .agg [.lit (.int .i64 2), .iface "func" (.lit (.string [115, 111, 102, 116, 102, 108, 111, 97, 116, 47, 115, 111, 102, 116, 46, 115, 117, 98]))], .agg [.lit (.int .i64 2), .iface "func" (.lit (.string [115, 111, 102, 116, 102, 108, 111, 97, 116, 47, 115, 111, 102, 116, 46, 109, 117, 108]))], .agg [.lit (.int .i64 2), .iface "func" (.lit (.string [115, 111, 102, 116, 102, 108, 111, 97, 116, 47, 115, 111, 102, 116, 46, 100, 105, 118]))], .agg [.lit (.int .i64 3), .iface "func" (.lit (.string [115, 111, 102, 116, 102, 108, 111, 97, 116, 47, 115, 111, 102, 116, 46, 102, 109, 97]))], .agg [.lit (.int .i64 1), .iface "func" (.lit (.string [115, 111, 102, 116, 102, 108, 111, 97, 116, 47, 115, 111, 102, 116, 46, 115, 113, 114, 116]))], .agg [.lit (.int .i64 1), .iface "func" (.lit (.string [115, 111, 102, 116, 102, 108, 111, 97, 116, 47, 115, 111, 102, 116, 46, 114, 115, 113, 114, 116]))], .agg [.lit (.int .i64 1), .iface "func" (.lit (.string [115, 111, 102, 116, 102, 108, 111, 97, 116, 47, 115, 111, 102, 116, 46, 99, 98, 114, 116]))], .agg [.lit (.int .i64 2), .iface "func" (.lit (.string [115, 111, 102, 116, 102, 108, 111, 97, 116, 47, 115, 111, 102, 116, 46, 104, 121, 112, 111, 116]))], .agg [.lit (.int .i64 0), .iface "func" (.lit (.string [115, 111, 102, 116, 102, 108, 111, 97, 116, 47, 115, 111, 102, 116, 46, 116, 97, 98, 108, 101, 36, 49]))]])

/-- 'softfloatlaw.Sums': WHATEVER THE INPUT: true; the input reads as it did. -/
def sumsSpec : ChangeSpec := { name := "sums", fn := fun _ => fun
  | [d] => { results := [.lit (.bool true)], args := [d] }
  | _ => none }
def sumsRow : OpenClaim := { program := "ytldmbneckcjonaadoor", sum := "084fab130659718ef3bc6cd500c252db9e729dcdf0cb5b9901c0b95acc48bbae", func := "softfloat/softfloatlaw.Sums", spec := "sums", unfollowed := true, recurses := true, named := ["softfloat/soft.table"], leaving := true, apart := false, laid := [("softfloat/soft.table", laid_softfloat_soft_table)] }
def SumsSaid : Prop := sumsRow.holds Tryd.pinned (OpenSpec.ofChange sumsSpec)

/-- ITS FALSE NEIGHBOUR: 'it returns false'. Refute it at one input. -/
def sumsWrong : ChangeSpec := { name := "sums", fn := fun _ => fun
  | [d] => { results := [.lit (.bool false)], args := [d] }
  | _ => none }
def SumsWrongFalsely : Prop := sumsRow.holds Tryd.pinned (OpenSpec.ofChange sumsWrong)

/-- 'softfloatlaw.Products': WHATEVER THE INPUT: true; the input reads as it did. -/
def productsSpec : ChangeSpec := { name := "products", fn := fun _ => fun
  | [d] => { results := [.lit (.bool true)], args := [d] }
  | _ => none }
def productsRow : OpenClaim := { program := "ytldmbneckcjonaadoor", sum := "084fab130659718ef3bc6cd500c252db9e729dcdf0cb5b9901c0b95acc48bbae", func := "softfloat/softfloatlaw.Products", spec := "products", unfollowed := true, recurses := true, named := ["softfloat/soft.table"], leaving := true, apart := false, laid := [("softfloat/soft.table", laid_softfloat_soft_table)] }
def ProductsSaid : Prop := productsRow.holds Tryd.pinned (OpenSpec.ofChange productsSpec)

/-- ITS FALSE NEIGHBOUR: 'it returns false'. Refute it at one input. -/
def productsWrong : ChangeSpec := { name := "products", fn := fun _ => fun
  | [d] => { results := [.lit (.bool false)], args := [d] }
  | _ => none }
def ProductsWrongFalsely : Prop := productsRow.holds Tryd.pinned (OpenSpec.ofChange productsWrong)

/-- 'softfloatlaw.Runs': WHATEVER THE INPUT: true; the input reads as it did. -/
def runsSpec : ChangeSpec := { name := "runs", fn := fun _ => fun
  | [d] => { results := [.lit (.bool true)], args := [d] }
  | _ => none }
def runsRow : OpenClaim := { program := "ytldmbneckcjonaadoor", sum := "084fab130659718ef3bc6cd500c252db9e729dcdf0cb5b9901c0b95acc48bbae", func := "softfloat/softfloatlaw.Runs", spec := "runs", inPlace := ["(*sync.WaitGroup).Add", "internal/race.ReleaseMerge", "internal/race.Disable", "internal/race.Enable", "internal/synctest.IsInBubble", "internal/synctest.Associate[sync.WaitGroup]", "sync.fatal", "sync/atomic.OrUint64", "sync/atomic.AddUint64", "internal/race.Read", "sync/atomic.LoadUint64", "sync/atomic.StoreUint64", "internal/synctest.Disassociate[sync.WaitGroup]", "sync.runtime_Semrelease", "(*sync.WaitGroup).Done", "sync/atomic.OrUint32", "(*sync.WaitGroup).Wait", "internal/race.Acquire", "internal/synctest.IsAssociated[sync.WaitGroup]", "sync/atomic.CompareAndSwapUint64", "internal/race.Write", "sync.runtime_SemacquireWaitGroup", "sync/atomic.StoreUint32", "sync/atomic.LoadUint32"], unfollowed := true, recurses := true, named := ["softfloat/soft.table"], leaving := true, apart := false, laid := [("softfloat/soft.table", laid_softfloat_soft_table)] }
def RunsSaid : Prop := runsRow.holds Tryd.pinned (OpenSpec.ofChange runsSpec)

/-- ITS FALSE NEIGHBOUR: 'it returns false'. Refute it at one input. -/
def runsWrong : ChangeSpec := { name := "runs", fn := fun _ => fun
  | [d] => { results := [.lit (.bool false)], args := [d] }
  | _ => none }
def RunsWrongFalsely : Prop := runsRow.holds Tryd.pinned (OpenSpec.ofChange runsWrong)

/-- 'softfloatlaw.All': WHATEVER THE INPUT: true; the input reads as it did. -/
def allSpec : ChangeSpec := { name := "all", fn := fun _ => fun
  | [d] => { results := [.lit (.bool true)], args := [d] }
  | _ => none }
def allRow : OpenClaim := { program := "ytldmbneckcjonaadoor", sum := "084fab130659718ef3bc6cd500c252db9e729dcdf0cb5b9901c0b95acc48bbae", func := "softfloat/softfloatlaw.All", spec := "all", inPlace := ["(*sync.WaitGroup).Add", "internal/race.ReleaseMerge", "internal/race.Disable", "internal/race.Enable", "internal/synctest.IsInBubble", "internal/synctest.Associate[sync.WaitGroup]", "sync.fatal", "sync/atomic.OrUint64", "sync/atomic.AddUint64", "internal/race.Read", "sync/atomic.LoadUint64", "sync/atomic.StoreUint64", "internal/synctest.Disassociate[sync.WaitGroup]", "sync.runtime_Semrelease", "(*sync.WaitGroup).Done", "sync/atomic.OrUint32", "(*sync.WaitGroup).Wait", "internal/race.Acquire", "internal/synctest.IsAssociated[sync.WaitGroup]", "sync/atomic.CompareAndSwapUint64", "internal/race.Write", "sync.runtime_SemacquireWaitGroup", "sync/atomic.StoreUint32", "sync/atomic.LoadUint32"], unfollowed := true, recurses := true, named := ["softfloat/soft.table"], leaving := true, apart := false, laid := [("softfloat/soft.table", laid_softfloat_soft_table)] }
def AllSaid : Prop := allRow.holds Tryd.pinned (OpenSpec.ofChange allSpec)

/-- ITS FALSE NEIGHBOUR: 'it returns false'. Refute it at one input. -/
def allWrong : ChangeSpec := { name := "all", fn := fun _ => fun
  | [d] => { results := [.lit (.bool false)], args := [d] }
  | _ => none }
def AllWrongFalsely : Prop := allRow.holds Tryd.pinned (OpenSpec.ofChange allWrong)

/-- 'softfloatlaw.Around': WHATEVER THE INPUT: true; the input reads as it did. -/
def aroundSpec : ChangeSpec := { name := "around", fn := fun _ => fun
  | [d] => { results := [.lit (.bool true)], args := [d] }
  | _ => none }
def aroundRow : OpenClaim := { program := "ytldmbneckcjonaadoor", sum := "084fab130659718ef3bc6cd500c252db9e729dcdf0cb5b9901c0b95acc48bbae", func := "softfloat/softfloatlaw.Around", spec := "around", unfollowed := true, recurses := true, named := ["softfloat/soft.table"], leaving := true, apart := false, laid := [("softfloat/soft.table", laid_softfloat_soft_table)] }
def AroundSaid : Prop := aroundRow.holds Tryd.pinned (OpenSpec.ofChange aroundSpec)

/-- ITS FALSE NEIGHBOUR: 'it returns false'. Refute it at one input. -/
def aroundWrong : ChangeSpec := { name := "around", fn := fun _ => fun
  | [d] => { results := [.lit (.bool false)], args := [d] }
  | _ => none }
def AroundWrongFalsely : Prop := aroundRow.holds Tryd.pinned (OpenSpec.ofChange aroundWrong)

/-- 'softfloatlaw.Turned': WHATEVER THE INPUT: true; the input reads as it did. -/
def turnedSpec : ChangeSpec := { name := "turned", fn := fun _ => fun
  | [d] => { results := [.lit (.bool true)], args := [d] }
  | _ => none }
def turnedRow : OpenClaim := { program := "ytldmbneckcjonaadoor", sum := "084fab130659718ef3bc6cd500c252db9e729dcdf0cb5b9901c0b95acc48bbae", func := "softfloat/softfloatlaw.Turned", spec := "turned", unfollowed := true, recurses := true, named := ["softfloat/soft.table"], leaving := true, apart := false, laid := [("softfloat/soft.table", laid_softfloat_soft_table)] }
def TurnedSaid : Prop := turnedRow.holds Tryd.pinned (OpenSpec.ofChange turnedSpec)

/-- ITS FALSE NEIGHBOUR: 'it returns false'. Refute it at one input. -/
def turnedWrong : ChangeSpec := { name := "turned", fn := fun _ => fun
  | [d] => { results := [.lit (.bool false)], args := [d] }
  | _ => none }
def TurnedWrongFalsely : Prop := turnedRow.holds Tryd.pinned (OpenSpec.ofChange turnedWrong)

/-- 'softfloatlaw.Quotients': WHATEVER THE INPUT: true; the input reads as it did. -/
def quotientsSpec : ChangeSpec := { name := "quotients", fn := fun _ => fun
  | [d] => { results := [.lit (.bool true)], args := [d] }
  | _ => none }
def quotientsRow : OpenClaim := { program := "ytldmbneckcjonaadoor", sum := "084fab130659718ef3bc6cd500c252db9e729dcdf0cb5b9901c0b95acc48bbae", func := "softfloat/softfloatlaw.Quotients", spec := "quotients", unfollowed := true, recurses := true, named := ["softfloat/soft.table"], leaving := true, apart := false, laid := [("softfloat/soft.table", laid_softfloat_soft_table)] }
def QuotientsSaid : Prop := quotientsRow.holds Tryd.pinned (OpenSpec.ofChange quotientsSpec)

/-- ITS FALSE NEIGHBOUR: 'it returns false'. Refute it at one input. -/
def quotientsWrong : ChangeSpec := { name := "quotients", fn := fun _ => fun
  | [d] => { results := [.lit (.bool false)], args := [d] }
  | _ => none }
def QuotientsWrongFalsely : Prop := quotientsRow.holds Tryd.pinned (OpenSpec.ofChange quotientsWrong)

/-- 'softfloatlaw.Fused': WHATEVER THE INPUT: true; the input reads as it did. -/
def fusedSpec : ChangeSpec := { name := "fused", fn := fun _ => fun
  | [d] => { results := [.lit (.bool true)], args := [d] }
  | _ => none }
def fusedRow : OpenClaim := { program := "ytldmbneckcjonaadoor", sum := "084fab130659718ef3bc6cd500c252db9e729dcdf0cb5b9901c0b95acc48bbae", func := "softfloat/softfloatlaw.Fused", spec := "fused", unfollowed := true, recurses := true, named := ["softfloat/soft.table"], leaving := true, apart := false, laid := [("softfloat/soft.table", laid_softfloat_soft_table)] }
def FusedSaid : Prop := fusedRow.holds Tryd.pinned (OpenSpec.ofChange fusedSpec)

/-- ITS FALSE NEIGHBOUR: 'it returns false'. Refute it at one input. -/
def fusedWrong : ChangeSpec := { name := "fused", fn := fun _ => fun
  | [d] => { results := [.lit (.bool false)], args := [d] }
  | _ => none }
def FusedWrongFalsely : Prop := fusedRow.holds Tryd.pinned (OpenSpec.ofChange fusedWrong)

/-- 'softfloatlaw.Roots': WHATEVER THE INPUT: true; the input reads as it did. -/
def rootsSpec : ChangeSpec := { name := "roots", fn := fun _ => fun
  | [d] => { results := [.lit (.bool true)], args := [d] }
  | _ => none }
def rootsRow : OpenClaim := { program := "ytldmbneckcjonaadoor", sum := "084fab130659718ef3bc6cd500c252db9e729dcdf0cb5b9901c0b95acc48bbae", func := "softfloat/softfloatlaw.Roots", spec := "roots", unfollowed := true, recurses := true, named := ["softfloat/soft.table"], leaving := true, apart := false, laid := [("softfloat/soft.table", laid_softfloat_soft_table)] }
def RootsSaid : Prop := rootsRow.holds Tryd.pinned (OpenSpec.ofChange rootsSpec)

/-- ITS FALSE NEIGHBOUR: 'it returns false'. Refute it at one input. -/
def rootsWrong : ChangeSpec := { name := "roots", fn := fun _ => fun
  | [d] => { results := [.lit (.bool false)], args := [d] }
  | _ => none }
def RootsWrongFalsely : Prop := rootsRow.holds Tryd.pinned (OpenSpec.ofChange rootsWrong)

/-- 'softfloatlaw.Sides': WHATEVER THE INPUT: true; the input reads as it did. -/
def sidesSpec : ChangeSpec := { name := "sides", fn := fun _ => fun
  | [d] => { results := [.lit (.bool true)], args := [d] }
  | _ => none }
def sidesRow : OpenClaim := { program := "ytldmbneckcjonaadoor", sum := "084fab130659718ef3bc6cd500c252db9e729dcdf0cb5b9901c0b95acc48bbae", func := "softfloat/softfloatlaw.Sides", spec := "sides", unfollowed := true, recurses := true, named := ["softfloat/soft.table"], leaving := true, apart := false, laid := [("softfloat/soft.table", laid_softfloat_soft_table)] }
def SidesSaid : Prop := sidesRow.holds Tryd.pinned (OpenSpec.ofChange sidesSpec)

/-- ITS FALSE NEIGHBOUR: 'it returns false'. Refute it at one input. -/
def sidesWrong : ChangeSpec := { name := "sides", fn := fun _ => fun
  | [d] => { results := [.lit (.bool false)], args := [d] }
  | _ => none }
def SidesWrongFalsely : Prop := sidesRow.holds Tryd.pinned (OpenSpec.ofChange sidesWrong)

/-- 'softfloatlaw.Others': WHATEVER THE INPUT: true; the input reads as it did. -/
def othersSpec : ChangeSpec := { name := "others", fn := fun _ => fun
  | [d] => { results := [.lit (.bool true)], args := [d] }
  | _ => none }
def othersRow : OpenClaim := { program := "ytldmbneckcjonaadoor", sum := "084fab130659718ef3bc6cd500c252db9e729dcdf0cb5b9901c0b95acc48bbae", func := "softfloat/softfloatlaw.Others", spec := "others", unfollowed := true, recurses := true, named := ["softfloat/soft.table"], leaving := true, apart := false, laid := [("softfloat/soft.table", laid_softfloat_soft_table)] }
def OthersSaid : Prop := othersRow.holds Tryd.pinned (OpenSpec.ofChange othersSpec)

/-- ITS FALSE NEIGHBOUR: 'it returns false'. Refute it at one input. -/
def othersWrong : ChangeSpec := { name := "others", fn := fun _ => fun
  | [d] => { results := [.lit (.bool false)], args := [d] }
  | _ => none }
def OthersWrongFalsely : Prop := othersRow.holds Tryd.pinned (OpenSpec.ofChange othersWrong)

/- THE SECOND FORM. 'bulk': how many values and letters a reading holds, each counted each time it is reached (what is shared counts as often as it is met; a slice's spare places count too). A statement '..UptoSaid' is the law's where the arguments, and the package variables that the reading takes, are together of bulk at most 1048576: NARROWER than '..Said'. Prove '..Said' where nothing that the law and all that it calls make is longer than what came in: it says more and counts as full. Else prove '..UptoSaid'. A law counts once. -/
mutual
def uptoBulk {H : Type} : DataW H → Nat
  | .lit (.string bytes) => bytes.length + 1
  | .lit _ => 1
  | .nil => 1
  | .ptr d => uptoBulk d + 1
  | .slice elems spare => uptoBulkAll elems + uptoBulkAll spare + 1
  | .agg parts => uptoBulkAll parts + 1
  | .iface _ d => uptoBulk d + 1
  | .map entries => uptoBulkEntries entries + 1
  | .held _ => 1
def uptoBulkAll {H : Type} : List (DataW H) → Nat
  | [] => 0
  | d :: r => uptoBulk d + uptoBulkAll r
def uptoBulkEntries {H : Type} : List (Lit × DataW H) → Nat
  | [] => 0
  | x :: r => uptoBulkEntry x + uptoBulkEntries r
def uptoBulkEntry {H : Type} : Lit × DataW H → Nat
  | (.string bytes, d) => bytes.length + uptoBulk d + 1
  | (_, d) => uptoBulk d + 1
 end
def uptoSmall : (H : Type) → List (DataW H) → Bool := fun _ ds => decide (uptoBulkAll ds ≤ 1048576)
def OpenSpec.upto (s : _root_.Go.ChangeSpec) : _root_.Go.OpenSpec := { _root_.Go.OpenSpec.ofChange s with cond := some uptoSmall }

/-- 'softfloatlaw.Sums', WHERE WHAT IT READS IS OF BULK AT MOST 1048576: true; the input reads as it did. -/
def sumsUptoRow : OpenClaim := { program := "ytldmbneckcjonaadoor", sum := "084fab130659718ef3bc6cd500c252db9e729dcdf0cb5b9901c0b95acc48bbae", func := "softfloat/softfloatlaw.Sums", spec := "sums", unfollowed := true, recurses := true, named := ["softfloat/soft.table"], leaving := true, apart := false, laid := [("softfloat/soft.table", laid_softfloat_soft_table)], narrowed := true }
def SumsUptoSaid : Prop := sumsUptoRow.holds Tryd.pinned (OpenSpec.upto sumsSpec)

/-- 'softfloatlaw.Products', WHERE WHAT IT READS IS OF BULK AT MOST 1048576: true; the input reads as it did. -/
def productsUptoRow : OpenClaim := { program := "ytldmbneckcjonaadoor", sum := "084fab130659718ef3bc6cd500c252db9e729dcdf0cb5b9901c0b95acc48bbae", func := "softfloat/softfloatlaw.Products", spec := "products", unfollowed := true, recurses := true, named := ["softfloat/soft.table"], leaving := true, apart := false, laid := [("softfloat/soft.table", laid_softfloat_soft_table)], narrowed := true }
def ProductsUptoSaid : Prop := productsUptoRow.holds Tryd.pinned (OpenSpec.upto productsSpec)

/-- 'softfloatlaw.Runs', WHERE WHAT IT READS IS OF BULK AT MOST 1048576: true; the input reads as it did. -/
def runsUptoRow : OpenClaim := { program := "ytldmbneckcjonaadoor", sum := "084fab130659718ef3bc6cd500c252db9e729dcdf0cb5b9901c0b95acc48bbae", func := "softfloat/softfloatlaw.Runs", spec := "runs", inPlace := ["(*sync.WaitGroup).Add", "internal/race.ReleaseMerge", "internal/race.Disable", "internal/race.Enable", "internal/synctest.IsInBubble", "internal/synctest.Associate[sync.WaitGroup]", "sync.fatal", "sync/atomic.OrUint64", "sync/atomic.AddUint64", "internal/race.Read", "sync/atomic.LoadUint64", "sync/atomic.StoreUint64", "internal/synctest.Disassociate[sync.WaitGroup]", "sync.runtime_Semrelease", "(*sync.WaitGroup).Done", "sync/atomic.OrUint32", "(*sync.WaitGroup).Wait", "internal/race.Acquire", "internal/synctest.IsAssociated[sync.WaitGroup]", "sync/atomic.CompareAndSwapUint64", "internal/race.Write", "sync.runtime_SemacquireWaitGroup", "sync/atomic.StoreUint32", "sync/atomic.LoadUint32"], unfollowed := true, recurses := true, named := ["softfloat/soft.table"], leaving := true, apart := false, laid := [("softfloat/soft.table", laid_softfloat_soft_table)], narrowed := true }
def RunsUptoSaid : Prop := runsUptoRow.holds Tryd.pinned (OpenSpec.upto runsSpec)

/-- 'softfloatlaw.All', WHERE WHAT IT READS IS OF BULK AT MOST 1048576: true; the input reads as it did. -/
def allUptoRow : OpenClaim := { program := "ytldmbneckcjonaadoor", sum := "084fab130659718ef3bc6cd500c252db9e729dcdf0cb5b9901c0b95acc48bbae", func := "softfloat/softfloatlaw.All", spec := "all", inPlace := ["(*sync.WaitGroup).Add", "internal/race.ReleaseMerge", "internal/race.Disable", "internal/race.Enable", "internal/synctest.IsInBubble", "internal/synctest.Associate[sync.WaitGroup]", "sync.fatal", "sync/atomic.OrUint64", "sync/atomic.AddUint64", "internal/race.Read", "sync/atomic.LoadUint64", "sync/atomic.StoreUint64", "internal/synctest.Disassociate[sync.WaitGroup]", "sync.runtime_Semrelease", "(*sync.WaitGroup).Done", "sync/atomic.OrUint32", "(*sync.WaitGroup).Wait", "internal/race.Acquire", "internal/synctest.IsAssociated[sync.WaitGroup]", "sync/atomic.CompareAndSwapUint64", "internal/race.Write", "sync.runtime_SemacquireWaitGroup", "sync/atomic.StoreUint32", "sync/atomic.LoadUint32"], unfollowed := true, recurses := true, named := ["softfloat/soft.table"], leaving := true, apart := false, laid := [("softfloat/soft.table", laid_softfloat_soft_table)], narrowed := true }
def AllUptoSaid : Prop := allUptoRow.holds Tryd.pinned (OpenSpec.upto allSpec)

/-- 'softfloatlaw.Around', WHERE WHAT IT READS IS OF BULK AT MOST 1048576: true; the input reads as it did. -/
def aroundUptoRow : OpenClaim := { program := "ytldmbneckcjonaadoor", sum := "084fab130659718ef3bc6cd500c252db9e729dcdf0cb5b9901c0b95acc48bbae", func := "softfloat/softfloatlaw.Around", spec := "around", unfollowed := true, recurses := true, named := ["softfloat/soft.table"], leaving := true, apart := false, laid := [("softfloat/soft.table", laid_softfloat_soft_table)], narrowed := true }
def AroundUptoSaid : Prop := aroundUptoRow.holds Tryd.pinned (OpenSpec.upto aroundSpec)

/-- 'softfloatlaw.Turned', WHERE WHAT IT READS IS OF BULK AT MOST 1048576: true; the input reads as it did. -/
def turnedUptoRow : OpenClaim := { program := "ytldmbneckcjonaadoor", sum := "084fab130659718ef3bc6cd500c252db9e729dcdf0cb5b9901c0b95acc48bbae", func := "softfloat/softfloatlaw.Turned", spec := "turned", unfollowed := true, recurses := true, named := ["softfloat/soft.table"], leaving := true, apart := false, laid := [("softfloat/soft.table", laid_softfloat_soft_table)], narrowed := true }
def TurnedUptoSaid : Prop := turnedUptoRow.holds Tryd.pinned (OpenSpec.upto turnedSpec)

/-- 'softfloatlaw.Quotients', WHERE WHAT IT READS IS OF BULK AT MOST 1048576: true; the input reads as it did. -/
def quotientsUptoRow : OpenClaim := { program := "ytldmbneckcjonaadoor", sum := "084fab130659718ef3bc6cd500c252db9e729dcdf0cb5b9901c0b95acc48bbae", func := "softfloat/softfloatlaw.Quotients", spec := "quotients", unfollowed := true, recurses := true, named := ["softfloat/soft.table"], leaving := true, apart := false, laid := [("softfloat/soft.table", laid_softfloat_soft_table)], narrowed := true }
def QuotientsUptoSaid : Prop := quotientsUptoRow.holds Tryd.pinned (OpenSpec.upto quotientsSpec)

/-- 'softfloatlaw.Fused', WHERE WHAT IT READS IS OF BULK AT MOST 1048576: true; the input reads as it did. -/
def fusedUptoRow : OpenClaim := { program := "ytldmbneckcjonaadoor", sum := "084fab130659718ef3bc6cd500c252db9e729dcdf0cb5b9901c0b95acc48bbae", func := "softfloat/softfloatlaw.Fused", spec := "fused", unfollowed := true, recurses := true, named := ["softfloat/soft.table"], leaving := true, apart := false, laid := [("softfloat/soft.table", laid_softfloat_soft_table)], narrowed := true }
def FusedUptoSaid : Prop := fusedUptoRow.holds Tryd.pinned (OpenSpec.upto fusedSpec)

/-- 'softfloatlaw.Roots', WHERE WHAT IT READS IS OF BULK AT MOST 1048576: true; the input reads as it did. -/
def rootsUptoRow : OpenClaim := { program := "ytldmbneckcjonaadoor", sum := "084fab130659718ef3bc6cd500c252db9e729dcdf0cb5b9901c0b95acc48bbae", func := "softfloat/softfloatlaw.Roots", spec := "roots", unfollowed := true, recurses := true, named := ["softfloat/soft.table"], leaving := true, apart := false, laid := [("softfloat/soft.table", laid_softfloat_soft_table)], narrowed := true }
def RootsUptoSaid : Prop := rootsUptoRow.holds Tryd.pinned (OpenSpec.upto rootsSpec)

/-- 'softfloatlaw.Sides', WHERE WHAT IT READS IS OF BULK AT MOST 1048576: true; the input reads as it did. -/
def sidesUptoRow : OpenClaim := { program := "ytldmbneckcjonaadoor", sum := "084fab130659718ef3bc6cd500c252db9e729dcdf0cb5b9901c0b95acc48bbae", func := "softfloat/softfloatlaw.Sides", spec := "sides", unfollowed := true, recurses := true, named := ["softfloat/soft.table"], leaving := true, apart := false, laid := [("softfloat/soft.table", laid_softfloat_soft_table)], narrowed := true }
def SidesUptoSaid : Prop := sidesUptoRow.holds Tryd.pinned (OpenSpec.upto sidesSpec)

/-- 'softfloatlaw.Others', WHERE WHAT IT READS IS OF BULK AT MOST 1048576: true; the input reads as it did. -/
def othersUptoRow : OpenClaim := { program := "ytldmbneckcjonaadoor", sum := "084fab130659718ef3bc6cd500c252db9e729dcdf0cb5b9901c0b95acc48bbae", func := "softfloat/softfloatlaw.Others", spec := "others", unfollowed := true, recurses := true, named := ["softfloat/soft.table"], leaving := true, apart := false, laid := [("softfloat/soft.table", laid_softfloat_soft_table)], narrowed := true }
def OthersUptoSaid : Prop := othersUptoRow.holds Tryd.pinned (OpenSpec.upto othersSpec)

end Rows
end Go.Proofs.YtldmbneckcjonaaDoor
