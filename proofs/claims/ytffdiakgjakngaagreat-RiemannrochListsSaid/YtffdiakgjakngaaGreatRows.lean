/-
  No cell of these rows narrows 'for every input' (looked for: loops, veiled, ifaces, maps, wideKeys, modest, calm, conditions, laid).
  DERIVED. THE GIVEN ROWS OF THIS SEAT. 9 by the template 'for every input the law returns true; each argument reads behind the call as it read before'; 0 by the template 'total and deterministic' (their statements: YtffdiakgjakngaaGreatTotals.lean).
  GIVEN WITH THE SEED: the statements are not yours to turn. If you find one false, say at which input.
  Laid BY PROGRAM, IN A SANDBOX (cutbox-rows.mjs): the forced cells as the released guide's own fill.sh prints them over the translation a83eae89cc435b4a… (all of the seat's roots in one cut). By AI agents, Wed Nov 11 2026. No macro, syntax, notation, axiom, sorry.
-/
import Derived.Test.YtffdiakgjakngaaGreatChecked
import GoSem.Claim
import GoSem.ClaimJoined
import GoSem.ClaimMapViews
import Derived.JoinedTies
import Derived.KernelRfl
namespace Go.Proofs.YtffdiakgjakngaaGreat
/- THE CELL 'sum', in the pinned program and in every row, IS THE sha256 OF THE DUMP (.gsa) THAT YtffdiakgjakngaaGreatProg.lean LOADS. Nothing in Lean hashes anything: it is a label: what it is worth is what the hold of that sum in a sandbox is worth. -/
noncomputable def Tryz.pinned : Pinned := { name := "ytffdiakgjakngaagreat", sum := "a83eae89cc435b4a02ddab317fbaf389bd15b843c394ffe539142dd91f480cca", checked := Tryz.checked }
namespace Rows
def none {H : Type} : Left H := { results := [], args := [] }

/-- 'sandpiletop.TopRochUnwinnable': WHATEVER THE INPUT: true; the input reads as it did. -/
def topRochUnwinnableSpec : ChangeSpec := { name := "topRochUnwinnable", fn := fun _ => fun
  | [d1, d2, d3] => { results := [.lit (.bool true)], args := [d1, d2, d3] }
  | _ => none }
def topRochUnwinnableRow : OpenClaim := { program := "ytffdiakgjakngaagreat", sum := "a83eae89cc435b4a02ddab317fbaf389bd15b843c394ffe539142dd91f480cca", func := "sandpile/sandpiletop.TopRochUnwinnable", spec := "topRochUnwinnable", unfollowed := true, recurses := true, plainKeys := false, apart := false }
def TopRochUnwinnableSaid : Prop := topRochUnwinnableRow.holds Tryz.pinned (OpenSpec.ofChange topRochUnwinnableSpec)

/-- ITS FALSE NEIGHBOUR: 'it returns false'. Refute it at one input. -/
def topRochUnwinnableWrong : ChangeSpec := { name := "topRochUnwinnable", fn := fun _ => fun
  | [d1, d2, d3] => { results := [.lit (.bool false)], args := [d1, d2, d3] }
  | _ => none }
def TopRochUnwinnableWrongFalsely : Prop := topRochUnwinnableRow.holds Tryz.pinned (OpenSpec.ofChange topRochUnwinnableWrong)

/-- 'sandpiletop.TopOrientationsLose': WHATEVER THE INPUT: true; the input reads as it did. -/
def topOrientationsLoseSpec : ChangeSpec := { name := "topOrientationsLose", fn := fun _ => fun
  | [d1, d2] => { results := [.lit (.bool true)], args := [d1, d2] }
  | _ => none }
def topOrientationsLoseRow : OpenClaim := { program := "ytffdiakgjakngaagreat", sum := "a83eae89cc435b4a02ddab317fbaf389bd15b843c394ffe539142dd91f480cca", func := "sandpile/sandpiletop.TopOrientationsLose", spec := "topOrientationsLose", unfollowed := true, recurses := true, plainKeys := false, apart := false }
def TopOrientationsLoseSaid : Prop := topOrientationsLoseRow.holds Tryz.pinned (OpenSpec.ofChange topOrientationsLoseSpec)

/-- ITS FALSE NEIGHBOUR: 'it returns false'. Refute it at one input. -/
def topOrientationsLoseWrong : ChangeSpec := { name := "topOrientationsLose", fn := fun _ => fun
  | [d1, d2] => { results := [.lit (.bool false)], args := [d1, d2] }
  | _ => none }
def TopOrientationsLoseWrongFalsely : Prop := topOrientationsLoseRow.holds Tryz.pinned (OpenSpec.ofChange topOrientationsLoseWrong)

/-- 'sandpilelaw39.RiemannrochBalances': WHATEVER THE INPUT: true; the input reads as it did. -/
def riemannrochBalancesSpec : ChangeSpec := { name := "riemannrochBalances", fn := fun _ => fun
  | [d1, d2] => { results := [.lit (.bool true)], args := [d1, d2] }
  | _ => none }
def riemannrochBalancesRow : OpenClaim := { program := "ytffdiakgjakngaagreat", sum := "a83eae89cc435b4a02ddab317fbaf389bd15b843c394ffe539142dd91f480cca", func := "sandpile/sandpilelaw39.RiemannrochBalances", spec := "riemannrochBalances", unfollowed := true, recurses := true, plainKeys := false, apart := false }
def RiemannrochBalancesSaid : Prop := riemannrochBalancesRow.holds Tryz.pinned (OpenSpec.ofChange riemannrochBalancesSpec)

/-- ITS FALSE NEIGHBOUR: 'it returns false'. Refute it at one input. -/
def riemannrochBalancesWrong : ChangeSpec := { name := "riemannrochBalances", fn := fun _ => fun
  | [d1, d2] => { results := [.lit (.bool false)], args := [d1, d2] }
  | _ => none }
def RiemannrochBalancesWrongFalsely : Prop := riemannrochBalancesRow.holds Tryz.pinned (OpenSpec.ofChange riemannrochBalancesWrong)

/-- 'sandpilelaw39.RiemannrochHolds': WHATEVER THE INPUT: true; the input reads as it did. -/
def riemannrochHoldsSpec : ChangeSpec := { name := "riemannrochHolds", fn := fun _ => fun
  | [d1, d2] => { results := [.lit (.bool true)], args := [d1, d2] }
  | _ => none }
def riemannrochHoldsRow : OpenClaim := { program := "ytffdiakgjakngaagreat", sum := "a83eae89cc435b4a02ddab317fbaf389bd15b843c394ffe539142dd91f480cca", func := "sandpile/sandpilelaw39.RiemannrochHolds", spec := "riemannrochHolds", unfollowed := true, recurses := true, plainKeys := false, apart := false }
def RiemannrochHoldsSaid : Prop := riemannrochHoldsRow.holds Tryz.pinned (OpenSpec.ofChange riemannrochHoldsSpec)

/-- ITS FALSE NEIGHBOUR: 'it returns false'. Refute it at one input. -/
def riemannrochHoldsWrong : ChangeSpec := { name := "riemannrochHolds", fn := fun _ => fun
  | [d1, d2] => { results := [.lit (.bool false)], args := [d1, d2] }
  | _ => none }
def RiemannrochHoldsWrongFalsely : Prop := riemannrochHoldsRow.holds Tryz.pinned (OpenSpec.ofChange riemannrochHoldsWrong)

/-- 'sandpilelaw39.RiemannrochCanons': WHATEVER THE INPUT: true; the input reads as it did. -/
def riemannrochCanonsSpec : ChangeSpec := { name := "riemannrochCanons", fn := fun _ => fun
  | [d1, d2] => { results := [.lit (.bool true)], args := [d1, d2] }
  | _ => none }
def riemannrochCanonsRow : OpenClaim := { program := "ytffdiakgjakngaagreat", sum := "a83eae89cc435b4a02ddab317fbaf389bd15b843c394ffe539142dd91f480cca", func := "sandpile/sandpilelaw39.RiemannrochCanons", spec := "riemannrochCanons", unfollowed := true, recurses := true, plainKeys := false, apart := false }
def RiemannrochCanonsSaid : Prop := riemannrochCanonsRow.holds Tryz.pinned (OpenSpec.ofChange riemannrochCanonsSpec)

/-- ITS FALSE NEIGHBOUR: 'it returns false'. Refute it at one input. -/
def riemannrochCanonsWrong : ChangeSpec := { name := "riemannrochCanons", fn := fun _ => fun
  | [d1, d2] => { results := [.lit (.bool false)], args := [d1, d2] }
  | _ => none }
def RiemannrochCanonsWrongFalsely : Prop := riemannrochCanonsRow.holds Tryz.pinned (OpenSpec.ofChange riemannrochCanonsWrong)

/-- 'sandpilelaw39.RiemannrochBounds': WHATEVER THE INPUT: true; the input reads as it did. -/
def riemannrochBoundsSpec : ChangeSpec := { name := "riemannrochBounds", fn := fun _ => fun
  | [d1, d2] => { results := [.lit (.bool true)], args := [d1, d2] }
  | _ => none }
def riemannrochBoundsRow : OpenClaim := { program := "ytffdiakgjakngaagreat", sum := "a83eae89cc435b4a02ddab317fbaf389bd15b843c394ffe539142dd91f480cca", func := "sandpile/sandpilelaw39.RiemannrochBounds", spec := "riemannrochBounds", unfollowed := true, recurses := true, plainKeys := false, apart := false }
def RiemannrochBoundsSaid : Prop := riemannrochBoundsRow.holds Tryz.pinned (OpenSpec.ofChange riemannrochBoundsSpec)

/-- ITS FALSE NEIGHBOUR: 'it returns false'. Refute it at one input. -/
def riemannrochBoundsWrong : ChangeSpec := { name := "riemannrochBounds", fn := fun _ => fun
  | [d1, d2] => { results := [.lit (.bool false)], args := [d1, d2] }
  | _ => none }
def RiemannrochBoundsWrongFalsely : Prop := riemannrochBoundsRow.holds Tryz.pinned (OpenSpec.ofChange riemannrochBoundsWrong)

/-- 'sandpilelaw39.RiemannrochLists': WHATEVER THE INPUT: true; the input reads as it did. -/
def riemannrochListsSpec : ChangeSpec := { name := "riemannrochLists", fn := fun _ => fun
  | [d1, d2] => { results := [.lit (.bool true)], args := [d1, d2] }
  | _ => none }
def riemannrochListsRow : OpenClaim := { program := "ytffdiakgjakngaagreat", sum := "a83eae89cc435b4a02ddab317fbaf389bd15b843c394ffe539142dd91f480cca", func := "sandpile/sandpilelaw39.RiemannrochLists", spec := "riemannrochLists", unfollowed := true, recurses := true, plainKeys := false, apart := false }
def RiemannrochListsSaid : Prop := riemannrochListsRow.holds Tryz.pinned (OpenSpec.ofChange riemannrochListsSpec)

/-- ITS FALSE NEIGHBOUR: 'it returns false'. Refute it at one input. -/
def riemannrochListsWrong : ChangeSpec := { name := "riemannrochLists", fn := fun _ => fun
  | [d1, d2] => { results := [.lit (.bool false)], args := [d1, d2] }
  | _ => none }
def RiemannrochListsWrongFalsely : Prop := riemannrochListsRow.holds Tryz.pinned (OpenSpec.ofChange riemannrochListsWrong)

/-- 'sandpilelaw39.RiemannrochLoses': WHATEVER THE INPUT: true; the input reads as it did. -/
def riemannrochLosesSpec : ChangeSpec := { name := "riemannrochLoses", fn := fun _ => fun
  | [d1, d2, d3] => { results := [.lit (.bool true)], args := [d1, d2, d3] }
  | _ => none }
def riemannrochLosesRow : OpenClaim := { program := "ytffdiakgjakngaagreat", sum := "a83eae89cc435b4a02ddab317fbaf389bd15b843c394ffe539142dd91f480cca", func := "sandpile/sandpilelaw39.RiemannrochLoses", spec := "riemannrochLoses", unfollowed := true, recurses := true, plainKeys := false, apart := false }
def RiemannrochLosesSaid : Prop := riemannrochLosesRow.holds Tryz.pinned (OpenSpec.ofChange riemannrochLosesSpec)

/-- ITS FALSE NEIGHBOUR: 'it returns false'. Refute it at one input. -/
def riemannrochLosesWrong : ChangeSpec := { name := "riemannrochLoses", fn := fun _ => fun
  | [d1, d2, d3] => { results := [.lit (.bool false)], args := [d1, d2, d3] }
  | _ => none }
def RiemannrochLosesWrongFalsely : Prop := riemannrochLosesRow.holds Tryz.pinned (OpenSpec.ofChange riemannrochLosesWrong)

/-- 'sandpilelaw39.RiemannrochOrients': WHATEVER THE INPUT: true; the input reads as it did. -/
def riemannrochOrientsSpec : ChangeSpec := { name := "riemannrochOrients", fn := fun _ => fun
  | [d1, d2] => { results := [.lit (.bool true)], args := [d1, d2] }
  | _ => none }
def riemannrochOrientsRow : OpenClaim := { program := "ytffdiakgjakngaagreat", sum := "a83eae89cc435b4a02ddab317fbaf389bd15b843c394ffe539142dd91f480cca", func := "sandpile/sandpilelaw39.RiemannrochOrients", spec := "riemannrochOrients", unfollowed := true, recurses := true, plainKeys := false, apart := false }
def RiemannrochOrientsSaid : Prop := riemannrochOrientsRow.holds Tryz.pinned (OpenSpec.ofChange riemannrochOrientsSpec)

/-- ITS FALSE NEIGHBOUR: 'it returns false'. Refute it at one input. -/
def riemannrochOrientsWrong : ChangeSpec := { name := "riemannrochOrients", fn := fun _ => fun
  | [d1, d2] => { results := [.lit (.bool false)], args := [d1, d2] }
  | _ => none }
def RiemannrochOrientsWrongFalsely : Prop := riemannrochOrientsRow.holds Tryz.pinned (OpenSpec.ofChange riemannrochOrientsWrong)

/- THE SECOND FORM. 'bulk': how many values and letters a reading holds, each counted each time it is reached (what is shared counts as often as it is met; a slice's spare places count too). A statement '..UptoSaid' is the law's where the arguments, and the package variables that the reading takes, are together of bulk at most 1048576: NARROWER than '..Said'. Prove '..Said' where nothing that the law and all that it calls make is longer than what came in: it says more and counts as full. Else prove '..UptoSaid'. A law counts once. -/
mutual
def uptoBulk {H : Type} : DataW H → Nat
  | .lit (.string bytes) => bytes.length + 1
  | .lit _ => 1
  | .nil => 1
  | .ptr d => uptoBulk d + 1
  | .slice elems spare => uptoBulkAll elems + uptoBulkAll spare + 1
  | .agg parts => uptoBulkAll parts + 1
  | .iface _ d => uptoBulk d + 1
  | .map entries => uptoBulkEntries entries + 1
  | .held _ => 1
def uptoBulkAll {H : Type} : List (DataW H) → Nat
  | [] => 0
  | d :: r => uptoBulk d + uptoBulkAll r
def uptoBulkEntries {H : Type} : List (Lit × DataW H) → Nat
  | [] => 0
  | x :: r => uptoBulkEntry x + uptoBulkEntries r
def uptoBulkEntry {H : Type} : Lit × DataW H → Nat
  | (.string bytes, d) => bytes.length + uptoBulk d + 1
  | (_, d) => uptoBulk d + 1
 end
def uptoSmall : (H : Type) → List (DataW H) → Bool := fun _ ds => decide (uptoBulkAll ds ≤ 1048576)
def OpenSpec.upto (s : _root_.Go.ChangeSpec) : _root_.Go.OpenSpec := { _root_.Go.OpenSpec.ofChange s with cond := some uptoSmall }

/-- 'sandpiletop.TopRochUnwinnable', WHERE WHAT IT READS IS OF BULK AT MOST 1048576: true; the input reads as it did. -/
def topRochUnwinnableUptoRow : OpenClaim := { program := "ytffdiakgjakngaagreat", sum := "a83eae89cc435b4a02ddab317fbaf389bd15b843c394ffe539142dd91f480cca", func := "sandpile/sandpiletop.TopRochUnwinnable", spec := "topRochUnwinnable", unfollowed := true, recurses := true, plainKeys := false, apart := false, narrowed := true }
def TopRochUnwinnableUptoSaid : Prop := topRochUnwinnableUptoRow.holds Tryz.pinned (OpenSpec.upto topRochUnwinnableSpec)

/-- 'sandpiletop.TopOrientationsLose', WHERE WHAT IT READS IS OF BULK AT MOST 1048576: true; the input reads as it did. -/
def topOrientationsLoseUptoRow : OpenClaim := { program := "ytffdiakgjakngaagreat", sum := "a83eae89cc435b4a02ddab317fbaf389bd15b843c394ffe539142dd91f480cca", func := "sandpile/sandpiletop.TopOrientationsLose", spec := "topOrientationsLose", unfollowed := true, recurses := true, plainKeys := false, apart := false, narrowed := true }
def TopOrientationsLoseUptoSaid : Prop := topOrientationsLoseUptoRow.holds Tryz.pinned (OpenSpec.upto topOrientationsLoseSpec)

/-- 'sandpilelaw39.RiemannrochBalances', WHERE WHAT IT READS IS OF BULK AT MOST 1048576: true; the input reads as it did. -/
def riemannrochBalancesUptoRow : OpenClaim := { program := "ytffdiakgjakngaagreat", sum := "a83eae89cc435b4a02ddab317fbaf389bd15b843c394ffe539142dd91f480cca", func := "sandpile/sandpilelaw39.RiemannrochBalances", spec := "riemannrochBalances", unfollowed := true, recurses := true, plainKeys := false, apart := false, narrowed := true }
def RiemannrochBalancesUptoSaid : Prop := riemannrochBalancesUptoRow.holds Tryz.pinned (OpenSpec.upto riemannrochBalancesSpec)

/-- 'sandpilelaw39.RiemannrochHolds', WHERE WHAT IT READS IS OF BULK AT MOST 1048576: true; the input reads as it did. -/
def riemannrochHoldsUptoRow : OpenClaim := { program := "ytffdiakgjakngaagreat", sum := "a83eae89cc435b4a02ddab317fbaf389bd15b843c394ffe539142dd91f480cca", func := "sandpile/sandpilelaw39.RiemannrochHolds", spec := "riemannrochHolds", unfollowed := true, recurses := true, plainKeys := false, apart := false, narrowed := true }
def RiemannrochHoldsUptoSaid : Prop := riemannrochHoldsUptoRow.holds Tryz.pinned (OpenSpec.upto riemannrochHoldsSpec)

/-- 'sandpilelaw39.RiemannrochCanons', WHERE WHAT IT READS IS OF BULK AT MOST 1048576: true; the input reads as it did. -/
def riemannrochCanonsUptoRow : OpenClaim := { program := "ytffdiakgjakngaagreat", sum := "a83eae89cc435b4a02ddab317fbaf389bd15b843c394ffe539142dd91f480cca", func := "sandpile/sandpilelaw39.RiemannrochCanons", spec := "riemannrochCanons", unfollowed := true, recurses := true, plainKeys := false, apart := false, narrowed := true }
def RiemannrochCanonsUptoSaid : Prop := riemannrochCanonsUptoRow.holds Tryz.pinned (OpenSpec.upto riemannrochCanonsSpec)

/-- 'sandpilelaw39.RiemannrochBounds', WHERE WHAT IT READS IS OF BULK AT MOST 1048576: true; the input reads as it did. -/
def riemannrochBoundsUptoRow : OpenClaim := { program := "ytffdiakgjakngaagreat", sum := "a83eae89cc435b4a02ddab317fbaf389bd15b843c394ffe539142dd91f480cca", func := "sandpile/sandpilelaw39.RiemannrochBounds", spec := "riemannrochBounds", unfollowed := true, recurses := true, plainKeys := false, apart := false, narrowed := true }
def RiemannrochBoundsUptoSaid : Prop := riemannrochBoundsUptoRow.holds Tryz.pinned (OpenSpec.upto riemannrochBoundsSpec)

/-- 'sandpilelaw39.RiemannrochLists', WHERE WHAT IT READS IS OF BULK AT MOST 1048576: true; the input reads as it did. -/
def riemannrochListsUptoRow : OpenClaim := { program := "ytffdiakgjakngaagreat", sum := "a83eae89cc435b4a02ddab317fbaf389bd15b843c394ffe539142dd91f480cca", func := "sandpile/sandpilelaw39.RiemannrochLists", spec := "riemannrochLists", unfollowed := true, recurses := true, plainKeys := false, apart := false, narrowed := true }
def RiemannrochListsUptoSaid : Prop := riemannrochListsUptoRow.holds Tryz.pinned (OpenSpec.upto riemannrochListsSpec)

/-- 'sandpilelaw39.RiemannrochLoses', WHERE WHAT IT READS IS OF BULK AT MOST 1048576: true; the input reads as it did. -/
def riemannrochLosesUptoRow : OpenClaim := { program := "ytffdiakgjakngaagreat", sum := "a83eae89cc435b4a02ddab317fbaf389bd15b843c394ffe539142dd91f480cca", func := "sandpile/sandpilelaw39.RiemannrochLoses", spec := "riemannrochLoses", unfollowed := true, recurses := true, plainKeys := false, apart := false, narrowed := true }
def RiemannrochLosesUptoSaid : Prop := riemannrochLosesUptoRow.holds Tryz.pinned (OpenSpec.upto riemannrochLosesSpec)

/-- 'sandpilelaw39.RiemannrochOrients', WHERE WHAT IT READS IS OF BULK AT MOST 1048576: true; the input reads as it did. -/
def riemannrochOrientsUptoRow : OpenClaim := { program := "ytffdiakgjakngaagreat", sum := "a83eae89cc435b4a02ddab317fbaf389bd15b843c394ffe539142dd91f480cca", func := "sandpile/sandpilelaw39.RiemannrochOrients", spec := "riemannrochOrients", unfollowed := true, recurses := true, plainKeys := false, apart := false, narrowed := true }
def RiemannrochOrientsUptoSaid : Prop := riemannrochOrientsUptoRow.holds Tryz.pinned (OpenSpec.upto riemannrochOrientsSpec)

end Rows
end Go.Proofs.YtffdiakgjakngaaGreat
