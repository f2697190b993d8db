/-
  No cell of these rows narrows 'for every input' (looked for: loops, veiled, ifaces, maps, wideKeys, modest, calm, conditions, laid).
  DERIVED. THE GIVEN ROWS OF THIS SEAT. 7 by the template 'for every input the law returns true; each argument reads behind the call as it read before'; 0 by the template 'total and deterministic' (their statements: YtffdiakgjakngaaTotals.lean).
  GIVEN WITH THE SEED: the statements are not yours to turn. If you find one false, say at which input.
  Laid BY PROGRAM, IN A SANDBOX (cutbox-rows.mjs): the forced cells as the released guide's own fill.sh prints them over the translation 7d359b2f7c944b37… (all of the seat's roots in one cut). By AI agents, Wed Nov 11 2026. No macro, syntax, notation, axiom, sorry.
-/
import Derived.Test.YtffdiakgjakngaaChecked
import GoSem.Claim
import GoSem.ClaimJoined
import GoSem.ClaimMapViews
import Derived.JoinedTies
import Derived.KernelRfl
namespace Go.Proofs.Ytffdiakgjakngaa
/- THE CELL 'sum', in the pinned program and in every row, IS THE sha256 OF THE DUMP (.gsa) THAT YtffdiakgjakngaaProg.lean LOADS. Nothing in Lean hashes anything: it is a label: what it is worth is what the hold of that sum in a sandbox is worth. -/
noncomputable def Try.pinned : Pinned := { name := "ytffdiakgjakngaa", sum := "7d359b2f7c944b379e8564868cf2826d74e3e679e9033d7bc75f9462004e5340", checked := Try.checked }
namespace Rows
def none {H : Type} : Left H := { results := [], args := [] }

/-- 'sandpilelaw28.SuperstableLists': WHATEVER THE INPUT: true; the input reads as it did. -/
def superstableListsSpec : ChangeSpec := { name := "superstableLists", fn := fun _ => fun
  | [d1, d2] => { results := [.lit (.bool true)], args := [d1, d2] }
  | _ => none }
def superstableListsRow : OpenClaim := { program := "ytffdiakgjakngaa", sum := "7d359b2f7c944b379e8564868cf2826d74e3e679e9033d7bc75f9462004e5340", func := "sandpile/sandpilelaw28.SuperstableLists", spec := "superstableLists", unfollowed := true, recurses := true, apart := false }
def SuperstableListsSaid : Prop := superstableListsRow.holds Try.pinned (OpenSpec.ofChange superstableListsSpec)

/-- ITS FALSE NEIGHBOUR: 'it returns false'. Refute it at one input. -/
def superstableListsWrong : ChangeSpec := { name := "superstableLists", fn := fun _ => fun
  | [d1, d2] => { results := [.lit (.bool false)], args := [d1, d2] }
  | _ => none }
def SuperstableListsWrongFalsely : Prop := superstableListsRow.holds Try.pinned (OpenSpec.ofChange superstableListsWrong)

/-- 'sandpilelaw28.SuperstableTops': WHATEVER THE INPUT: true; the input reads as it did. -/
def superstableTopsSpec : ChangeSpec := { name := "superstableTops", fn := fun _ => fun
  | [d1, d2] => { results := [.lit (.bool true)], args := [d1, d2] }
  | _ => none }
def superstableTopsRow : OpenClaim := { program := "ytffdiakgjakngaa", sum := "7d359b2f7c944b379e8564868cf2826d74e3e679e9033d7bc75f9462004e5340", func := "sandpile/sandpilelaw28.SuperstableTops", spec := "superstableTops", unfollowed := true, recurses := true, apart := false }
def SuperstableTopsSaid : Prop := superstableTopsRow.holds Try.pinned (OpenSpec.ofChange superstableTopsSpec)

/-- ITS FALSE NEIGHBOUR: 'it returns false'. Refute it at one input. -/
def superstableTopsWrong : ChangeSpec := { name := "superstableTops", fn := fun _ => fun
  | [d1, d2] => { results := [.lit (.bool false)], args := [d1, d2] }
  | _ => none }
def SuperstableTopsWrongFalsely : Prop := superstableTopsRow.holds Try.pinned (OpenSpec.ofChange superstableTopsWrong)

/-- 'sandpilelaw28.SuperstableRaises': WHATEVER THE INPUT: true; the input reads as it did. -/
def superstableRaisesSpec : ChangeSpec := { name := "superstableRaises", fn := fun _ => fun
  | [d1, d2, d3] => { results := [.lit (.bool true)], args := [d1, d2, d3] }
  | _ => none }
def superstableRaisesRow : OpenClaim := { program := "ytffdiakgjakngaa", sum := "7d359b2f7c944b379e8564868cf2826d74e3e679e9033d7bc75f9462004e5340", func := "sandpile/sandpilelaw28.SuperstableRaises", spec := "superstableRaises", unfollowed := true, recurses := true, apart := false }
def SuperstableRaisesSaid : Prop := superstableRaisesRow.holds Try.pinned (OpenSpec.ofChange superstableRaisesSpec)

/-- ITS FALSE NEIGHBOUR: 'it returns false'. Refute it at one input. -/
def superstableRaisesWrong : ChangeSpec := { name := "superstableRaises", fn := fun _ => fun
  | [d1, d2, d3] => { results := [.lit (.bool false)], args := [d1, d2, d3] }
  | _ => none }
def SuperstableRaisesWrongFalsely : Prop := superstableRaisesRow.holds Try.pinned (OpenSpec.ofChange superstableRaisesWrong)

/-- 'sandpilelaw28.SuperstableGenus': WHATEVER THE INPUT: true; the input reads as it did. -/
def superstableGenusSpec : ChangeSpec := { name := "superstableGenus", fn := fun _ => fun
  | [d1, d2] => { results := [.lit (.bool true)], args := [d1, d2] }
  | _ => none }
def superstableGenusRow : OpenClaim := { program := "ytffdiakgjakngaa", sum := "7d359b2f7c944b379e8564868cf2826d74e3e679e9033d7bc75f9462004e5340", func := "sandpile/sandpilelaw28.SuperstableGenus", spec := "superstableGenus", unfollowed := true, recurses := true, apart := false }
def SuperstableGenusSaid : Prop := superstableGenusRow.holds Try.pinned (OpenSpec.ofChange superstableGenusSpec)

/-- ITS FALSE NEIGHBOUR: 'it returns false'. Refute it at one input. -/
def superstableGenusWrong : ChangeSpec := { name := "superstableGenus", fn := fun _ => fun
  | [d1, d2] => { results := [.lit (.bool false)], args := [d1, d2] }
  | _ => none }
def SuperstableGenusWrongFalsely : Prop := superstableGenusRow.holds Try.pinned (OpenSpec.ofChange superstableGenusWrong)

/-- 'sandpilelaw28.SuperstableReaches': WHATEVER THE INPUT: true; the input reads as it did. -/
def superstableReachesSpec : ChangeSpec := { name := "superstableReaches", fn := fun _ => fun
  | [d1, d2, d3] => { results := [.lit (.bool true)], args := [d1, d2, d3] }
  | _ => none }
def superstableReachesRow : OpenClaim := { program := "ytffdiakgjakngaa", sum := "7d359b2f7c944b379e8564868cf2826d74e3e679e9033d7bc75f9462004e5340", func := "sandpile/sandpilelaw28.SuperstableReaches", spec := "superstableReaches", unfollowed := true, recurses := true, apart := false }
def SuperstableReachesSaid : Prop := superstableReachesRow.holds Try.pinned (OpenSpec.ofChange superstableReachesSpec)

/-- ITS FALSE NEIGHBOUR: 'it returns false'. Refute it at one input. -/
def superstableReachesWrong : ChangeSpec := { name := "superstableReaches", fn := fun _ => fun
  | [d1, d2, d3] => { results := [.lit (.bool false)], args := [d1, d2, d3] }
  | _ => none }
def SuperstableReachesWrongFalsely : Prop := superstableReachesRow.holds Try.pinned (OpenSpec.ofChange superstableReachesWrong)

/-- 'sandpilelaw28.SuperstableBelow': WHATEVER THE INPUT: true; the input reads as it did. -/
def superstableBelowSpec : ChangeSpec := { name := "superstableBelow", fn := fun _ => fun
  | [d1, d2] => { results := [.lit (.bool true)], args := [d1, d2] }
  | _ => none }
def superstableBelowRow : OpenClaim := { program := "ytffdiakgjakngaa", sum := "7d359b2f7c944b379e8564868cf2826d74e3e679e9033d7bc75f9462004e5340", func := "sandpile/sandpilelaw28.SuperstableBelow", spec := "superstableBelow", unfollowed := true, recurses := true, apart := false }
def SuperstableBelowSaid : Prop := superstableBelowRow.holds Try.pinned (OpenSpec.ofChange superstableBelowSpec)

/-- ITS FALSE NEIGHBOUR: 'it returns false'. Refute it at one input. -/
def superstableBelowWrong : ChangeSpec := { name := "superstableBelow", fn := fun _ => fun
  | [d1, d2] => { results := [.lit (.bool false)], args := [d1, d2] }
  | _ => none }
def SuperstableBelowWrongFalsely : Prop := superstableBelowRow.holds Try.pinned (OpenSpec.ofChange superstableBelowWrong)

/-- 'sandpilelaw28.SuperstableDuals': WHATEVER THE INPUT: true; the input reads as it did. -/
def superstableDualsSpec : ChangeSpec := { name := "superstableDuals", fn := fun _ => fun
  | [d1, d2, d3] => { results := [.lit (.bool true)], args := [d1, d2, d3] }
  | _ => none }
def superstableDualsRow : OpenClaim := { program := "ytffdiakgjakngaa", sum := "7d359b2f7c944b379e8564868cf2826d74e3e679e9033d7bc75f9462004e5340", func := "sandpile/sandpilelaw28.SuperstableDuals", spec := "superstableDuals", unfollowed := true, recurses := true, apart := false }
def SuperstableDualsSaid : Prop := superstableDualsRow.holds Try.pinned (OpenSpec.ofChange superstableDualsSpec)

/-- ITS FALSE NEIGHBOUR: 'it returns false'. Refute it at one input. -/
def superstableDualsWrong : ChangeSpec := { name := "superstableDuals", fn := fun _ => fun
  | [d1, d2, d3] => { results := [.lit (.bool false)], args := [d1, d2, d3] }
  | _ => none }
def SuperstableDualsWrongFalsely : Prop := superstableDualsRow.holds Try.pinned (OpenSpec.ofChange superstableDualsWrong)

/- THE SECOND FORM. 'bulk': how many values and letters a reading holds, each counted each time it is reached (what is shared counts as often as it is met; a slice's spare places count too). A statement '..UptoSaid' is the law's where the arguments, and the package variables that the reading takes, are together of bulk at most 1048576: NARROWER than '..Said'. Prove '..Said' where nothing that the law and all that it calls make is longer than what came in: it says more and counts as full. Else prove '..UptoSaid'. A law counts once. -/
mutual
def uptoBulk {H : Type} : DataW H → Nat
  | .lit (.string bytes) => bytes.length + 1
  | .lit _ => 1
  | .nil => 1
  | .ptr d => uptoBulk d + 1
  | .slice elems spare => uptoBulkAll elems + uptoBulkAll spare + 1
  | .agg parts => uptoBulkAll parts + 1
  | .iface _ d => uptoBulk d + 1
  | .map entries => uptoBulkEntries entries + 1
  | .held _ => 1
def uptoBulkAll {H : Type} : List (DataW H) → Nat
  | [] => 0
  | d :: r => uptoBulk d + uptoBulkAll r
def uptoBulkEntries {H : Type} : List (Lit × DataW H) → Nat
  | [] => 0
  | x :: r => uptoBulkEntry x + uptoBulkEntries r
def uptoBulkEntry {H : Type} : Lit × DataW H → Nat
  | (.string bytes, d) => bytes.length + uptoBulk d + 1
  | (_, d) => uptoBulk d + 1
 end
def uptoSmall : (H : Type) → List (DataW H) → Bool := fun _ ds => decide (uptoBulkAll ds ≤ 1048576)
def OpenSpec.upto (s : _root_.Go.ChangeSpec) : _root_.Go.OpenSpec := { _root_.Go.OpenSpec.ofChange s with cond := some uptoSmall }

/-- 'sandpilelaw28.SuperstableLists', WHERE WHAT IT READS IS OF BULK AT MOST 1048576: true; the input reads as it did. -/
def superstableListsUptoRow : OpenClaim := { program := "ytffdiakgjakngaa", sum := "7d359b2f7c944b379e8564868cf2826d74e3e679e9033d7bc75f9462004e5340", func := "sandpile/sandpilelaw28.SuperstableLists", spec := "superstableLists", unfollowed := true, recurses := true, apart := false, narrowed := true }
def SuperstableListsUptoSaid : Prop := superstableListsUptoRow.holds Try.pinned (OpenSpec.upto superstableListsSpec)

/-- 'sandpilelaw28.SuperstableTops', WHERE WHAT IT READS IS OF BULK AT MOST 1048576: true; the input reads as it did. -/
def superstableTopsUptoRow : OpenClaim := { program := "ytffdiakgjakngaa", sum := "7d359b2f7c944b379e8564868cf2826d74e3e679e9033d7bc75f9462004e5340", func := "sandpile/sandpilelaw28.SuperstableTops", spec := "superstableTops", unfollowed := true, recurses := true, apart := false, narrowed := true }
def SuperstableTopsUptoSaid : Prop := superstableTopsUptoRow.holds Try.pinned (OpenSpec.upto superstableTopsSpec)

/-- 'sandpilelaw28.SuperstableRaises', WHERE WHAT IT READS IS OF BULK AT MOST 1048576: true; the input reads as it did. -/
def superstableRaisesUptoRow : OpenClaim := { program := "ytffdiakgjakngaa", sum := "7d359b2f7c944b379e8564868cf2826d74e3e679e9033d7bc75f9462004e5340", func := "sandpile/sandpilelaw28.SuperstableRaises", spec := "superstableRaises", unfollowed := true, recurses := true, apart := false, narrowed := true }
def SuperstableRaisesUptoSaid : Prop := superstableRaisesUptoRow.holds Try.pinned (OpenSpec.upto superstableRaisesSpec)

/-- 'sandpilelaw28.SuperstableGenus', WHERE WHAT IT READS IS OF BULK AT MOST 1048576: true; the input reads as it did. -/
def superstableGenusUptoRow : OpenClaim := { program := "ytffdiakgjakngaa", sum := "7d359b2f7c944b379e8564868cf2826d74e3e679e9033d7bc75f9462004e5340", func := "sandpile/sandpilelaw28.SuperstableGenus", spec := "superstableGenus", unfollowed := true, recurses := true, apart := false, narrowed := true }
def SuperstableGenusUptoSaid : Prop := superstableGenusUptoRow.holds Try.pinned (OpenSpec.upto superstableGenusSpec)

/-- 'sandpilelaw28.SuperstableReaches', WHERE WHAT IT READS IS OF BULK AT MOST 1048576: true; the input reads as it did. -/
def superstableReachesUptoRow : OpenClaim := { program := "ytffdiakgjakngaa", sum := "7d359b2f7c944b379e8564868cf2826d74e3e679e9033d7bc75f9462004e5340", func := "sandpile/sandpilelaw28.SuperstableReaches", spec := "superstableReaches", unfollowed := true, recurses := true, apart := false, narrowed := true }
def SuperstableReachesUptoSaid : Prop := superstableReachesUptoRow.holds Try.pinned (OpenSpec.upto superstableReachesSpec)

/-- 'sandpilelaw28.SuperstableBelow', WHERE WHAT IT READS IS OF BULK AT MOST 1048576: true; the input reads as it did. -/
def superstableBelowUptoRow : OpenClaim := { program := "ytffdiakgjakngaa", sum := "7d359b2f7c944b379e8564868cf2826d74e3e679e9033d7bc75f9462004e5340", func := "sandpile/sandpilelaw28.SuperstableBelow", spec := "superstableBelow", unfollowed := true, recurses := true, apart := false, narrowed := true }
def SuperstableBelowUptoSaid : Prop := superstableBelowUptoRow.holds Try.pinned (OpenSpec.upto superstableBelowSpec)

/-- 'sandpilelaw28.SuperstableDuals', WHERE WHAT IT READS IS OF BULK AT MOST 1048576: true; the input reads as it did. -/
def superstableDualsUptoRow : OpenClaim := { program := "ytffdiakgjakngaa", sum := "7d359b2f7c944b379e8564868cf2826d74e3e679e9033d7bc75f9462004e5340", func := "sandpile/sandpilelaw28.SuperstableDuals", spec := "superstableDuals", unfollowed := true, recurses := true, apart := false, narrowed := true }
def SuperstableDualsUptoSaid : Prop := superstableDualsUptoRow.holds Try.pinned (OpenSpec.upto superstableDualsSpec)

end Rows
end Go.Proofs.Ytffdiakgjakngaa
