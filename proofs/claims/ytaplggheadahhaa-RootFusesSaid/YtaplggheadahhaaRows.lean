/-
  No cell of these rows narrows 'for every input' (looked for: loops, veiled, ifaces, maps, wideKeys, modest, calm, conditions, laid).
  DERIVED. THE GIVEN ROWS OF THIS SEAT. 17 by the template 'for every input the law returns true; each argument reads behind the call as it read before'; 0 by the template 'total and deterministic' (their statements: YtaplggheadahhaaTotals.lean).
  GIVEN WITH THE SEED: the statements are not yours to turn. If you find one false, say at which input.
  Laid BY PROGRAM, IN A SANDBOX (cutbox-rows.mjs): the forced cells as the released guide's own fill.sh prints them over the translation 487f857a4b24a894… (all of the seat's roots in one cut). By AI agents, Wed Nov 11 2026. No macro, syntax, notation, axiom, sorry.
-/
import Derived.Test.YtaplggheadahhaaChecked
import GoSem.Claim
import GoSem.ClaimJoined
import GoSem.ClaimMapViews
import Derived.JoinedTies
import Derived.KernelRfl
namespace Go.Proofs.Ytaplggheadahhaa
/- THE CELL 'sum', in the pinned program and in every row, IS THE sha256 OF THE DUMP (.gsa) THAT YtaplggheadahhaaProg.lean LOADS. Nothing in Lean hashes anything: it is a label: what it is worth is what the hold of that sum in a sandbox is worth. -/
noncomputable def Try.pinned : Pinned := { name := "ytaplggheadahhaa", sum := "487f857a4b24a894b2dad978b2958ee2f090a78b2acdacc97e6131223bbc444f", checked := Try.checked }
namespace Rows
def none {H : Type} : Left H := { results := [], args := [] }

/-- 'tabardlaw4.ArithOrders': WHATEVER THE INPUT: true; the input reads as it did. -/
def arithOrdersSpec : ChangeSpec := { name := "arithOrders", fn := fun _ => fun
  | [d1, d2, d3] => { results := [.lit (.bool true)], args := [d1, d2, d3] }
  | _ => none }
def arithOrdersRow : OpenClaim := { program := "ytaplggheadahhaa", sum := "487f857a4b24a894b2dad978b2958ee2f090a78b2acdacc97e6131223bbc444f", func := "tabard/tabardlaw4.ArithOrders", spec := "arithOrders", inPlace := ["math/bits.Add64", "math/bits.Sub64"], unfollowed := true, recurses := true, apart := false }
def ArithOrdersSaid : Prop := arithOrdersRow.holds Try.pinned (OpenSpec.ofChange arithOrdersSpec)

/-- ITS FALSE NEIGHBOUR: 'it returns false'. Refute it at one input. -/
def arithOrdersWrong : ChangeSpec := { name := "arithOrders", fn := fun _ => fun
  | [d1, d2, d3] => { results := [.lit (.bool false)], args := [d1, d2, d3] }
  | _ => none }
def ArithOrdersWrongFalsely : Prop := arithOrdersRow.holds Try.pinned (OpenSpec.ofChange arithOrdersWrong)

/-- 'tabardlaw4.ArithExact': WHATEVER THE INPUT: true; the input reads as it did. -/
def arithExactSpec : ChangeSpec := { name := "arithExact", fn := fun _ => fun
  | [d1, d2] => { results := [.lit (.bool true)], args := [d1, d2] }
  | _ => none }
def arithExactRow : OpenClaim := { program := "ytaplggheadahhaa", sum := "487f857a4b24a894b2dad978b2958ee2f090a78b2acdacc97e6131223bbc444f", func := "tabard/tabardlaw4.ArithExact", spec := "arithExact", inPlace := ["math/bits.Add64", "math/bits.Sub64"], unfollowed := true, recurses := true, apart := false }
def ArithExactSaid : Prop := arithExactRow.holds Try.pinned (OpenSpec.ofChange arithExactSpec)

/-- ITS FALSE NEIGHBOUR: 'it returns false'. Refute it at one input. -/
def arithExactWrong : ChangeSpec := { name := "arithExact", fn := fun _ => fun
  | [d1, d2] => { results := [.lit (.bool false)], args := [d1, d2] }
  | _ => none }
def ArithExactWrongFalsely : Prop := arithExactRow.holds Try.pinned (OpenSpec.ofChange arithExactWrong)

/-- 'tabardlaw6.WholeCompares': WHATEVER THE INPUT: true; the input reads as it did. -/
def wholeComparesSpec : ChangeSpec := { name := "wholeCompares", fn := fun _ => fun
  | [d1, d2] => { results := [.lit (.bool true)], args := [d1, d2] }
  | _ => none }
def wholeComparesRow : OpenClaim := { program := "ytaplggheadahhaa", sum := "487f857a4b24a894b2dad978b2958ee2f090a78b2acdacc97e6131223bbc444f", func := "tabard/tabardlaw6.WholeCompares", spec := "wholeCompares", unfollowed := true, recurses := true, apart := false }
def WholeComparesSaid : Prop := wholeComparesRow.holds Try.pinned (OpenSpec.ofChange wholeComparesSpec)

/-- ITS FALSE NEIGHBOUR: 'it returns false'. Refute it at one input. -/
def wholeComparesWrong : ChangeSpec := { name := "wholeCompares", fn := fun _ => fun
  | [d1, d2] => { results := [.lit (.bool false)], args := [d1, d2] }
  | _ => none }
def WholeComparesWrongFalsely : Prop := wholeComparesRow.holds Try.pinned (OpenSpec.ofChange wholeComparesWrong)

/-- 'tabardlaw6.WholeRounds': WHATEVER THE INPUT: true; the input reads as it did. -/
def wholeRoundsSpec : ChangeSpec := { name := "wholeRounds", fn := fun _ => fun
  | [d1, d2] => { results := [.lit (.bool true)], args := [d1, d2] }
  | _ => none }
def wholeRoundsRow : OpenClaim := { program := "ytaplggheadahhaa", sum := "487f857a4b24a894b2dad978b2958ee2f090a78b2acdacc97e6131223bbc444f", func := "tabard/tabardlaw6.WholeRounds", spec := "wholeRounds", unfollowed := true, recurses := true, apart := false }
def WholeRoundsSaid : Prop := wholeRoundsRow.holds Try.pinned (OpenSpec.ofChange wholeRoundsSpec)

/-- ITS FALSE NEIGHBOUR: 'it returns false'. Refute it at one input. -/
def wholeRoundsWrong : ChangeSpec := { name := "wholeRounds", fn := fun _ => fun
  | [d1, d2] => { results := [.lit (.bool false)], args := [d1, d2] }
  | _ => none }
def WholeRoundsWrongFalsely : Prop := wholeRoundsRow.holds Try.pinned (OpenSpec.ofChange wholeRoundsWrong)

/-- 'tabardlaw6.WholeInts': WHATEVER THE INPUT: true; the input reads as it did. -/
def wholeIntsSpec : ChangeSpec := { name := "wholeInts", fn := fun _ => fun
  | [d1, d2, d3] => { results := [.lit (.bool true)], args := [d1, d2, d3] }
  | _ => none }
def wholeIntsRow : OpenClaim := { program := "ytaplggheadahhaa", sum := "487f857a4b24a894b2dad978b2958ee2f090a78b2acdacc97e6131223bbc444f", func := "tabard/tabardlaw6.WholeInts", spec := "wholeInts", unfollowed := true, recurses := true, apart := false }
def WholeIntsSaid : Prop := wholeIntsRow.holds Try.pinned (OpenSpec.ofChange wholeIntsSpec)

/-- ITS FALSE NEIGHBOUR: 'it returns false'. Refute it at one input. -/
def wholeIntsWrong : ChangeSpec := { name := "wholeInts", fn := fun _ => fun
  | [d1, d2, d3] => { results := [.lit (.bool false)], args := [d1, d2, d3] }
  | _ => none }
def WholeIntsWrongFalsely : Prop := wholeIntsRow.holds Try.pinned (OpenSpec.ofChange wholeIntsWrong)

/-- 'tabardlaw6.WholeOrders': WHATEVER THE INPUT: true; the input reads as it did. -/
def wholeOrdersSpec : ChangeSpec := { name := "wholeOrders", fn := fun _ => fun
  | [d1, d2, d3] => { results := [.lit (.bool true)], args := [d1, d2, d3] }
  | _ => none }
def wholeOrdersRow : OpenClaim := { program := "ytaplggheadahhaa", sum := "487f857a4b24a894b2dad978b2958ee2f090a78b2acdacc97e6131223bbc444f", func := "tabard/tabardlaw6.WholeOrders", spec := "wholeOrders", unfollowed := true, recurses := true, apart := false }
def WholeOrdersSaid : Prop := wholeOrdersRow.holds Try.pinned (OpenSpec.ofChange wholeOrdersSpec)

/-- ITS FALSE NEIGHBOUR: 'it returns false'. Refute it at one input. -/
def wholeOrdersWrong : ChangeSpec := { name := "wholeOrders", fn := fun _ => fun
  | [d1, d2, d3] => { results := [.lit (.bool false)], args := [d1, d2, d3] }
  | _ => none }
def WholeOrdersWrongFalsely : Prop := wholeOrdersRow.holds Try.pinned (OpenSpec.ofChange wholeOrdersWrong)

/-- 'tabardlaw6.WholeBack': WHATEVER THE INPUT: true; the input reads as it did. -/
def wholeBackSpec : ChangeSpec := { name := "wholeBack", fn := fun _ => fun
  | [d1, d2] => { results := [.lit (.bool true)], args := [d1, d2] }
  | _ => none }
def wholeBackRow : OpenClaim := { program := "ytaplggheadahhaa", sum := "487f857a4b24a894b2dad978b2958ee2f090a78b2acdacc97e6131223bbc444f", func := "tabard/tabardlaw6.WholeBack", spec := "wholeBack", unfollowed := true, recurses := true, apart := false }
def WholeBackSaid : Prop := wholeBackRow.holds Try.pinned (OpenSpec.ofChange wholeBackSpec)

/-- ITS FALSE NEIGHBOUR: 'it returns false'. Refute it at one input. -/
def wholeBackWrong : ChangeSpec := { name := "wholeBack", fn := fun _ => fun
  | [d1, d2] => { results := [.lit (.bool false)], args := [d1, d2] }
  | _ => none }
def WholeBackWrongFalsely : Prop := wholeBackRow.holds Try.pinned (OpenSpec.ofChange wholeBackWrong)

/-- 'tabardlaw6.WholeNears': WHATEVER THE INPUT: true; the input reads as it did. -/
def wholeNearsSpec : ChangeSpec := { name := "wholeNears", fn := fun _ => fun
  | [d] => { results := [.lit (.bool true)], args := [d] }
  | _ => none }
def wholeNearsRow : OpenClaim := { program := "ytaplggheadahhaa", sum := "487f857a4b24a894b2dad978b2958ee2f090a78b2acdacc97e6131223bbc444f", func := "tabard/tabardlaw6.WholeNears", spec := "wholeNears", inPlace := ["math/bits.Add64", "math/bits.Sub64"], unfollowed := true, recurses := true, apart := false }
def WholeNearsSaid : Prop := wholeNearsRow.holds Try.pinned (OpenSpec.ofChange wholeNearsSpec)

/-- ITS FALSE NEIGHBOUR: 'it returns false'. Refute it at one input. -/
def wholeNearsWrong : ChangeSpec := { name := "wholeNears", fn := fun _ => fun
  | [d] => { results := [.lit (.bool false)], args := [d] }
  | _ => none }
def WholeNearsWrongFalsely : Prop := wholeNearsRow.holds Try.pinned (OpenSpec.ofChange wholeNearsWrong)

/-- 'tabardlaw5.RootDivs': WHATEVER THE INPUT: true; the input reads as it did. -/
def rootDivsSpec : ChangeSpec := { name := "rootDivs", fn := fun _ => fun
  | [d1, d2] => { results := [.lit (.bool true)], args := [d1, d2] }
  | _ => none }
def rootDivsRow : OpenClaim := { program := "ytaplggheadahhaa", sum := "487f857a4b24a894b2dad978b2958ee2f090a78b2acdacc97e6131223bbc444f", func := "tabard/tabardlaw5.RootDivs", spec := "rootDivs", inPlace := ["math/bits.Add64", "math/bits.Sub64"], unfollowed := true, recurses := true, named := ["math/bits.divideError", "math/bits.overflowError"], apart := false }
def RootDivsSaid : Prop := rootDivsRow.holds Try.pinned (OpenSpec.ofChange rootDivsSpec)

/-- ITS FALSE NEIGHBOUR: 'it returns false'. Refute it at one input. -/
def rootDivsWrong : ChangeSpec := { name := "rootDivs", fn := fun _ => fun
  | [d1, d2] => { results := [.lit (.bool false)], args := [d1, d2] }
  | _ => none }
def RootDivsWrongFalsely : Prop := rootDivsRow.holds Try.pinned (OpenSpec.ofChange rootDivsWrong)

/-- 'tabardlaw5.RootRoots': WHATEVER THE INPUT: true; the input reads as it did. -/
def rootRootsSpec : ChangeSpec := { name := "rootRoots", fn := fun _ => fun
  | [d] => { results := [.lit (.bool true)], args := [d] }
  | _ => none }
def rootRootsRow : OpenClaim := { program := "ytaplggheadahhaa", sum := "487f857a4b24a894b2dad978b2958ee2f090a78b2acdacc97e6131223bbc444f", func := "tabard/tabardlaw5.RootRoots", spec := "rootRoots", inPlace := ["math/bits.Add64", "math/bits.Sub64"], unfollowed := true, recurses := true, named := ["math/bits.divideError", "math/bits.overflowError"], apart := false }
def RootRootsSaid : Prop := rootRootsRow.holds Try.pinned (OpenSpec.ofChange rootRootsSpec)

/-- ITS FALSE NEIGHBOUR: 'it returns false'. Refute it at one input. -/
def rootRootsWrong : ChangeSpec := { name := "rootRoots", fn := fun _ => fun
  | [d] => { results := [.lit (.bool false)], args := [d] }
  | _ => none }
def RootRootsWrongFalsely : Prop := rootRootsRow.holds Try.pinned (OpenSpec.ofChange rootRootsWrong)

/-- 'tabardlaw5.RootFuses': WHATEVER THE INPUT: true; the input reads as it did. -/
def rootFusesSpec : ChangeSpec := { name := "rootFuses", fn := fun _ => fun
  | [d1, d2, d3] => { results := [.lit (.bool true)], args := [d1, d2, d3] }
  | _ => none }
def rootFusesRow : OpenClaim := { program := "ytaplggheadahhaa", sum := "487f857a4b24a894b2dad978b2958ee2f090a78b2acdacc97e6131223bbc444f", func := "tabard/tabardlaw5.RootFuses", spec := "rootFuses", inPlace := ["math/bits.Add64", "math/bits.Sub64"], unfollowed := true, recurses := true, named := ["math/bits.divideError", "math/bits.overflowError"], apart := false }
def RootFusesSaid : Prop := rootFusesRow.holds Try.pinned (OpenSpec.ofChange rootFusesSpec)

/-- ITS FALSE NEIGHBOUR: 'it returns false'. Refute it at one input. -/
def rootFusesWrong : ChangeSpec := { name := "rootFuses", fn := fun _ => fun
  | [d1, d2, d3] => { results := [.lit (.bool false)], args := [d1, d2, d3] }
  | _ => none }
def RootFusesWrongFalsely : Prop := rootFusesRow.holds Try.pinned (OpenSpec.ofChange rootFusesWrong)

/-- 'tabardlaw5.RootMods': WHATEVER THE INPUT: true; the input reads as it did. -/
def rootModsSpec : ChangeSpec := { name := "rootMods", fn := fun _ => fun
  | [d1, d2] => { results := [.lit (.bool true)], args := [d1, d2] }
  | _ => none }
def rootModsRow : OpenClaim := { program := "ytaplggheadahhaa", sum := "487f857a4b24a894b2dad978b2958ee2f090a78b2acdacc97e6131223bbc444f", func := "tabard/tabardlaw5.RootMods", spec := "rootMods", inPlace := ["math/bits.Add64", "math/bits.Sub64"], unfollowed := true, recurses := true, named := ["math/bits.divideError", "math/bits.overflowError"], apart := false }
def RootModsSaid : Prop := rootModsRow.holds Try.pinned (OpenSpec.ofChange rootModsSpec)

/-- ITS FALSE NEIGHBOUR: 'it returns false'. Refute it at one input. -/
def rootModsWrong : ChangeSpec := { name := "rootMods", fn := fun _ => fun
  | [d1, d2] => { results := [.lit (.bool false)], args := [d1, d2] }
  | _ => none }
def RootModsWrongFalsely : Prop := rootModsRow.holds Try.pinned (OpenSpec.ofChange rootModsWrong)

/-- 'tabardlaw5.RootPowers': WHATEVER THE INPUT: true; the input reads as it did. -/
def rootPowersSpec : ChangeSpec := { name := "rootPowers", fn := fun _ => fun
  | [d1, d2] => { results := [.lit (.bool true)], args := [d1, d2] }
  | _ => none }
def rootPowersRow : OpenClaim := { program := "ytaplggheadahhaa", sum := "487f857a4b24a894b2dad978b2958ee2f090a78b2acdacc97e6131223bbc444f", func := "tabard/tabardlaw5.RootPowers", spec := "rootPowers", inPlace := ["math/bits.Add64", "math/bits.Sub64"], unfollowed := true, recurses := true, named := ["math/bits.divideError", "math/bits.overflowError"], apart := false }
def RootPowersSaid : Prop := rootPowersRow.holds Try.pinned (OpenSpec.ofChange rootPowersSpec)

/-- ITS FALSE NEIGHBOUR: 'it returns false'. Refute it at one input. -/
def rootPowersWrong : ChangeSpec := { name := "rootPowers", fn := fun _ => fun
  | [d1, d2] => { results := [.lit (.bool false)], args := [d1, d2] }
  | _ => none }
def RootPowersWrongFalsely : Prop := rootPowersRow.holds Try.pinned (OpenSpec.ofChange rootPowersWrong)

/-- 'tabardlaw5.RootPlain': WHATEVER THE INPUT: true; the input reads as it did. -/
def rootPlainSpec : ChangeSpec := { name := "rootPlain", fn := fun _ => fun
  | [d1, d2] => { results := [.lit (.bool true)], args := [d1, d2] }
  | _ => none }
def rootPlainRow : OpenClaim := { program := "ytaplggheadahhaa", sum := "487f857a4b24a894b2dad978b2958ee2f090a78b2acdacc97e6131223bbc444f", func := "tabard/tabardlaw5.RootPlain", spec := "rootPlain", inPlace := ["math/bits.Add64", "math/bits.Sub64"], unfollowed := true, recurses := true, named := ["math/bits.divideError", "math/bits.overflowError"], apart := false }
def RootPlainSaid : Prop := rootPlainRow.holds Try.pinned (OpenSpec.ofChange rootPlainSpec)

/-- ITS FALSE NEIGHBOUR: 'it returns false'. Refute it at one input. -/
def rootPlainWrong : ChangeSpec := { name := "rootPlain", fn := fun _ => fun
  | [d1, d2] => { results := [.lit (.bool false)], args := [d1, d2] }
  | _ => none }
def RootPlainWrongFalsely : Prop := rootPlainRow.holds Try.pinned (OpenSpec.ofChange rootPlainWrong)

/-- 'tabardlaw5.RootSmalls': WHATEVER THE INPUT: true; the input reads as it did. -/
def rootSmallsSpec : ChangeSpec := { name := "rootSmalls", fn := fun _ => fun
  | [d1, d2] => { results := [.lit (.bool true)], args := [d1, d2] }
  | _ => none }
def rootSmallsRow : OpenClaim := { program := "ytaplggheadahhaa", sum := "487f857a4b24a894b2dad978b2958ee2f090a78b2acdacc97e6131223bbc444f", func := "tabard/tabardlaw5.RootSmalls", spec := "rootSmalls", inPlace := ["math/bits.Add64", "math/bits.Sub64"], unfollowed := true, recurses := true, named := ["math/bits.divideError", "math/bits.overflowError"], apart := false }
def RootSmallsSaid : Prop := rootSmallsRow.holds Try.pinned (OpenSpec.ofChange rootSmallsSpec)

/-- ITS FALSE NEIGHBOUR: 'it returns false'. Refute it at one input. -/
def rootSmallsWrong : ChangeSpec := { name := "rootSmalls", fn := fun _ => fun
  | [d1, d2] => { results := [.lit (.bool false)], args := [d1, d2] }
  | _ => none }
def RootSmallsWrongFalsely : Prop := rootSmallsRow.holds Try.pinned (OpenSpec.ofChange rootSmallsWrong)

/-- 'tabardlaw5.RootLeft': WHATEVER THE INPUT: true; the input reads as it did. -/
def rootLeftSpec : ChangeSpec := { name := "rootLeft", fn := fun _ => fun
  | [d1, d2] => { results := [.lit (.bool true)], args := [d1, d2] }
  | _ => none }
def rootLeftRow : OpenClaim := { program := "ytaplggheadahhaa", sum := "487f857a4b24a894b2dad978b2958ee2f090a78b2acdacc97e6131223bbc444f", func := "tabard/tabardlaw5.RootLeft", spec := "rootLeft", inPlace := ["math/bits.Add64", "math/bits.Sub64"], unfollowed := true, recurses := true, named := ["math/bits.divideError", "math/bits.overflowError"], apart := false }
def RootLeftSaid : Prop := rootLeftRow.holds Try.pinned (OpenSpec.ofChange rootLeftSpec)

/-- ITS FALSE NEIGHBOUR: 'it returns false'. Refute it at one input. -/
def rootLeftWrong : ChangeSpec := { name := "rootLeft", fn := fun _ => fun
  | [d1, d2] => { results := [.lit (.bool false)], args := [d1, d2] }
  | _ => none }
def RootLeftWrongFalsely : Prop := rootLeftRow.holds Try.pinned (OpenSpec.ofChange rootLeftWrong)

/-- 'tabardlaw5.RootSquares': WHATEVER THE INPUT: true; the input reads as it did. -/
def rootSquaresSpec : ChangeSpec := { name := "rootSquares", fn := fun _ => fun
  | [d1, d2] => { results := [.lit (.bool true)], args := [d1, d2] }
  | _ => none }
def rootSquaresRow : OpenClaim := { program := "ytaplggheadahhaa", sum := "487f857a4b24a894b2dad978b2958ee2f090a78b2acdacc97e6131223bbc444f", func := "tabard/tabardlaw5.RootSquares", spec := "rootSquares", inPlace := ["math/bits.Add64", "math/bits.Sub64"], unfollowed := true, recurses := true, named := ["math/bits.divideError", "math/bits.overflowError"], apart := false }
def RootSquaresSaid : Prop := rootSquaresRow.holds Try.pinned (OpenSpec.ofChange rootSquaresSpec)

/-- ITS FALSE NEIGHBOUR: 'it returns false'. Refute it at one input. -/
def rootSquaresWrong : ChangeSpec := { name := "rootSquares", fn := fun _ => fun
  | [d1, d2] => { results := [.lit (.bool false)], args := [d1, d2] }
  | _ => none }
def RootSquaresWrongFalsely : Prop := rootSquaresRow.holds Try.pinned (OpenSpec.ofChange rootSquaresWrong)

/- THE SECOND FORM. 'bulk': how many values and letters a reading holds, each counted each time it is reached (what is shared counts as often as it is met; a slice's spare places count too). A statement '..UptoSaid' is the law's where the arguments, and the package variables that the reading takes, are together of bulk at most 1048576: NARROWER than '..Said'. Prove '..Said' where nothing that the law and all that it calls make is longer than what came in: it says more and counts as full. Else prove '..UptoSaid'. A law counts once. -/
mutual
def uptoBulk {H : Type} : DataW H → Nat
  | .lit (.string bytes) => bytes.length + 1
  | .lit _ => 1
  | .nil => 1
  | .ptr d => uptoBulk d + 1
  | .slice elems spare => uptoBulkAll elems + uptoBulkAll spare + 1
  | .agg parts => uptoBulkAll parts + 1
  | .iface _ d => uptoBulk d + 1
  | .map entries => uptoBulkEntries entries + 1
  | .held _ => 1
def uptoBulkAll {H : Type} : List (DataW H) → Nat
  | [] => 0
  | d :: r => uptoBulk d + uptoBulkAll r
def uptoBulkEntries {H : Type} : List (Lit × DataW H) → Nat
  | [] => 0
  | x :: r => uptoBulkEntry x + uptoBulkEntries r
def uptoBulkEntry {H : Type} : Lit × DataW H → Nat
  | (.string bytes, d) => bytes.length + uptoBulk d + 1
  | (_, d) => uptoBulk d + 1
 end
def uptoSmall : (H : Type) → List (DataW H) → Bool := fun _ ds => decide (uptoBulkAll ds ≤ 1048576)
def OpenSpec.upto (s : _root_.Go.ChangeSpec) : _root_.Go.OpenSpec := { _root_.Go.OpenSpec.ofChange s with cond := some uptoSmall }

/-- 'tabardlaw4.ArithOrders', WHERE WHAT IT READS IS OF BULK AT MOST 1048576: true; the input reads as it did. -/
def arithOrdersUptoRow : OpenClaim := { program := "ytaplggheadahhaa", sum := "487f857a4b24a894b2dad978b2958ee2f090a78b2acdacc97e6131223bbc444f", func := "tabard/tabardlaw4.ArithOrders", spec := "arithOrders", inPlace := ["math/bits.Add64", "math/bits.Sub64"], unfollowed := true, recurses := true, apart := false, narrowed := true }
def ArithOrdersUptoSaid : Prop := arithOrdersUptoRow.holds Try.pinned (OpenSpec.upto arithOrdersSpec)

/-- 'tabardlaw4.ArithExact', WHERE WHAT IT READS IS OF BULK AT MOST 1048576: true; the input reads as it did. -/
def arithExactUptoRow : OpenClaim := { program := "ytaplggheadahhaa", sum := "487f857a4b24a894b2dad978b2958ee2f090a78b2acdacc97e6131223bbc444f", func := "tabard/tabardlaw4.ArithExact", spec := "arithExact", inPlace := ["math/bits.Add64", "math/bits.Sub64"], unfollowed := true, recurses := true, apart := false, narrowed := true }
def ArithExactUptoSaid : Prop := arithExactUptoRow.holds Try.pinned (OpenSpec.upto arithExactSpec)

/-- 'tabardlaw6.WholeCompares', WHERE WHAT IT READS IS OF BULK AT MOST 1048576: true; the input reads as it did. -/
def wholeComparesUptoRow : OpenClaim := { program := "ytaplggheadahhaa", sum := "487f857a4b24a894b2dad978b2958ee2f090a78b2acdacc97e6131223bbc444f", func := "tabard/tabardlaw6.WholeCompares", spec := "wholeCompares", unfollowed := true, recurses := true, apart := false, narrowed := true }
def WholeComparesUptoSaid : Prop := wholeComparesUptoRow.holds Try.pinned (OpenSpec.upto wholeComparesSpec)

/-- 'tabardlaw6.WholeRounds', WHERE WHAT IT READS IS OF BULK AT MOST 1048576: true; the input reads as it did. -/
def wholeRoundsUptoRow : OpenClaim := { program := "ytaplggheadahhaa", sum := "487f857a4b24a894b2dad978b2958ee2f090a78b2acdacc97e6131223bbc444f", func := "tabard/tabardlaw6.WholeRounds", spec := "wholeRounds", unfollowed := true, recurses := true, apart := false, narrowed := true }
def WholeRoundsUptoSaid : Prop := wholeRoundsUptoRow.holds Try.pinned (OpenSpec.upto wholeRoundsSpec)

/-- 'tabardlaw6.WholeInts', WHERE WHAT IT READS IS OF BULK AT MOST 1048576: true; the input reads as it did. -/
def wholeIntsUptoRow : OpenClaim := { program := "ytaplggheadahhaa", sum := "487f857a4b24a894b2dad978b2958ee2f090a78b2acdacc97e6131223bbc444f", func := "tabard/tabardlaw6.WholeInts", spec := "wholeInts", unfollowed := true, recurses := true, apart := false, narrowed := true }
def WholeIntsUptoSaid : Prop := wholeIntsUptoRow.holds Try.pinned (OpenSpec.upto wholeIntsSpec)

/-- 'tabardlaw6.WholeOrders', WHERE WHAT IT READS IS OF BULK AT MOST 1048576: true; the input reads as it did. -/
def wholeOrdersUptoRow : OpenClaim := { program := "ytaplggheadahhaa", sum := "487f857a4b24a894b2dad978b2958ee2f090a78b2acdacc97e6131223bbc444f", func := "tabard/tabardlaw6.WholeOrders", spec := "wholeOrders", unfollowed := true, recurses := true, apart := false, narrowed := true }
def WholeOrdersUptoSaid : Prop := wholeOrdersUptoRow.holds Try.pinned (OpenSpec.upto wholeOrdersSpec)

/-- 'tabardlaw6.WholeBack', WHERE WHAT IT READS IS OF BULK AT MOST 1048576: true; the input reads as it did. -/
def wholeBackUptoRow : OpenClaim := { program := "ytaplggheadahhaa", sum := "487f857a4b24a894b2dad978b2958ee2f090a78b2acdacc97e6131223bbc444f", func := "tabard/tabardlaw6.WholeBack", spec := "wholeBack", unfollowed := true, recurses := true, apart := false, narrowed := true }
def WholeBackUptoSaid : Prop := wholeBackUptoRow.holds Try.pinned (OpenSpec.upto wholeBackSpec)

/-- 'tabardlaw6.WholeNears', WHERE WHAT IT READS IS OF BULK AT MOST 1048576: true; the input reads as it did. -/
def wholeNearsUptoRow : OpenClaim := { program := "ytaplggheadahhaa", sum := "487f857a4b24a894b2dad978b2958ee2f090a78b2acdacc97e6131223bbc444f", func := "tabard/tabardlaw6.WholeNears", spec := "wholeNears", inPlace := ["math/bits.Add64", "math/bits.Sub64"], unfollowed := true, recurses := true, apart := false, narrowed := true }
def WholeNearsUptoSaid : Prop := wholeNearsUptoRow.holds Try.pinned (OpenSpec.upto wholeNearsSpec)

/-- 'tabardlaw5.RootDivs', WHERE WHAT IT READS IS OF BULK AT MOST 1048576: true; the input reads as it did. -/
def rootDivsUptoRow : OpenClaim := { program := "ytaplggheadahhaa", sum := "487f857a4b24a894b2dad978b2958ee2f090a78b2acdacc97e6131223bbc444f", func := "tabard/tabardlaw5.RootDivs", spec := "rootDivs", inPlace := ["math/bits.Add64", "math/bits.Sub64"], unfollowed := true, recurses := true, named := ["math/bits.divideError", "math/bits.overflowError"], apart := false, narrowed := true }
def RootDivsUptoSaid : Prop := rootDivsUptoRow.holds Try.pinned (OpenSpec.upto rootDivsSpec)

/-- 'tabardlaw5.RootRoots', WHERE WHAT IT READS IS OF BULK AT MOST 1048576: true; the input reads as it did. -/
def rootRootsUptoRow : OpenClaim := { program := "ytaplggheadahhaa", sum := "487f857a4b24a894b2dad978b2958ee2f090a78b2acdacc97e6131223bbc444f", func := "tabard/tabardlaw5.RootRoots", spec := "rootRoots", inPlace := ["math/bits.Add64", "math/bits.Sub64"], unfollowed := true, recurses := true, named := ["math/bits.divideError", "math/bits.overflowError"], apart := false, narrowed := true }
def RootRootsUptoSaid : Prop := rootRootsUptoRow.holds Try.pinned (OpenSpec.upto rootRootsSpec)

/-- 'tabardlaw5.RootFuses', WHERE WHAT IT READS IS OF BULK AT MOST 1048576: true; the input reads as it did. -/
def rootFusesUptoRow : OpenClaim := { program := "ytaplggheadahhaa", sum := "487f857a4b24a894b2dad978b2958ee2f090a78b2acdacc97e6131223bbc444f", func := "tabard/tabardlaw5.RootFuses", spec := "rootFuses", inPlace := ["math/bits.Add64", "math/bits.Sub64"], unfollowed := true, recurses := true, named := ["math/bits.divideError", "math/bits.overflowError"], apart := false, narrowed := true }
def RootFusesUptoSaid : Prop := rootFusesUptoRow.holds Try.pinned (OpenSpec.upto rootFusesSpec)

/-- 'tabardlaw5.RootMods', WHERE WHAT IT READS IS OF BULK AT MOST 1048576: true; the input reads as it did. -/
def rootModsUptoRow : OpenClaim := { program := "ytaplggheadahhaa", sum := "487f857a4b24a894b2dad978b2958ee2f090a78b2acdacc97e6131223bbc444f", func := "tabard/tabardlaw5.RootMods", spec := "rootMods", inPlace := ["math/bits.Add64", "math/bits.Sub64"], unfollowed := true, recurses := true, named := ["math/bits.divideError", "math/bits.overflowError"], apart := false, narrowed := true }
def RootModsUptoSaid : Prop := rootModsUptoRow.holds Try.pinned (OpenSpec.upto rootModsSpec)

/-- 'tabardlaw5.RootPowers', WHERE WHAT IT READS IS OF BULK AT MOST 1048576: true; the input reads as it did. -/
def rootPowersUptoRow : OpenClaim := { program := "ytaplggheadahhaa", sum := "487f857a4b24a894b2dad978b2958ee2f090a78b2acdacc97e6131223bbc444f", func := "tabard/tabardlaw5.RootPowers", spec := "rootPowers", inPlace := ["math/bits.Add64", "math/bits.Sub64"], unfollowed := true, recurses := true, named := ["math/bits.divideError", "math/bits.overflowError"], apart := false, narrowed := true }
def RootPowersUptoSaid : Prop := rootPowersUptoRow.holds Try.pinned (OpenSpec.upto rootPowersSpec)

/-- 'tabardlaw5.RootPlain', WHERE WHAT IT READS IS OF BULK AT MOST 1048576: true; the input reads as it did. -/
def rootPlainUptoRow : OpenClaim := { program := "ytaplggheadahhaa", sum := "487f857a4b24a894b2dad978b2958ee2f090a78b2acdacc97e6131223bbc444f", func := "tabard/tabardlaw5.RootPlain", spec := "rootPlain", inPlace := ["math/bits.Add64", "math/bits.Sub64"], unfollowed := true, recurses := true, named := ["math/bits.divideError", "math/bits.overflowError"], apart := false, narrowed := true }
def RootPlainUptoSaid : Prop := rootPlainUptoRow.holds Try.pinned (OpenSpec.upto rootPlainSpec)

/-- 'tabardlaw5.RootSmalls', WHERE WHAT IT READS IS OF BULK AT MOST 1048576: true; the input reads as it did. -/
def rootSmallsUptoRow : OpenClaim := { program := "ytaplggheadahhaa", sum := "487f857a4b24a894b2dad978b2958ee2f090a78b2acdacc97e6131223bbc444f", func := "tabard/tabardlaw5.RootSmalls", spec := "rootSmalls", inPlace := ["math/bits.Add64", "math/bits.Sub64"], unfollowed := true, recurses := true, named := ["math/bits.divideError", "math/bits.overflowError"], apart := false, narrowed := true }
def RootSmallsUptoSaid : Prop := rootSmallsUptoRow.holds Try.pinned (OpenSpec.upto rootSmallsSpec)

/-- 'tabardlaw5.RootLeft', WHERE WHAT IT READS IS OF BULK AT MOST 1048576: true; the input reads as it did. -/
def rootLeftUptoRow : OpenClaim := { program := "ytaplggheadahhaa", sum := "487f857a4b24a894b2dad978b2958ee2f090a78b2acdacc97e6131223bbc444f", func := "tabard/tabardlaw5.RootLeft", spec := "rootLeft", inPlace := ["math/bits.Add64", "math/bits.Sub64"], unfollowed := true, recurses := true, named := ["math/bits.divideError", "math/bits.overflowError"], apart := false, narrowed := true }
def RootLeftUptoSaid : Prop := rootLeftUptoRow.holds Try.pinned (OpenSpec.upto rootLeftSpec)

/-- 'tabardlaw5.RootSquares', WHERE WHAT IT READS IS OF BULK AT MOST 1048576: true; the input reads as it did. -/
def rootSquaresUptoRow : OpenClaim := { program := "ytaplggheadahhaa", sum := "487f857a4b24a894b2dad978b2958ee2f090a78b2acdacc97e6131223bbc444f", func := "tabard/tabardlaw5.RootSquares", spec := "rootSquares", inPlace := ["math/bits.Add64", "math/bits.Sub64"], unfollowed := true, recurses := true, named := ["math/bits.divideError", "math/bits.overflowError"], apart := false, narrowed := true }
def RootSquaresUptoSaid : Prop := rootSquaresUptoRow.holds Try.pinned (OpenSpec.upto rootSquaresSpec)

end Rows
end Go.Proofs.Ytaplggheadahhaa
