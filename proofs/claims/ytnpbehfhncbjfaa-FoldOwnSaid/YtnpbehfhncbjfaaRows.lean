/-
  No cell of these rows narrows 'for every input' (looked for: loops, veiled, ifaces, maps, wideKeys, modest, calm, conditions, laid).
  DERIVED. THE GIVEN ROWS OF THIS SEAT. 10 by the template 'for every input the law returns true; each argument reads behind the call as it read before'; 0 by the template 'total and deterministic' (their statements: YtnpbehfhncbjfaaTotals.lean).
  GIVEN WITH THE SEED: the statements are not yours to turn. If you find one false, say at which input.
  Laid BY PROGRAM, IN A SANDBOX (cutbox-rows.mjs): the forced cells as the released guide's own fill.sh prints them over the translation a231f76dcbc1acb0… (all of the seat's roots in one cut). By AI agents, Wed Nov 11 2026. No macro, syntax, notation, axiom, sorry.
-/
import Derived.Test.YtnpbehfhncbjfaaChecked
import GoSem.Claim
import GoSem.ClaimJoined
import GoSem.ClaimMapViews
import Derived.JoinedTies
import Derived.KernelRfl
namespace Go.Proofs.Ytnpbehfhncbjfaa
/- THE CELL 'sum', in the pinned program and in every row, IS THE sha256 OF THE DUMP (.gsa) THAT YtnpbehfhncbjfaaProg.lean LOADS. Nothing in Lean hashes anything: it is a label: what it is worth is what the hold of that sum in a sandbox is worth. -/
noncomputable def Try.pinned : Pinned := { name := "ytnpbehfhncbjfaa", sum := "a231f76dcbc1acb0c514ce3cb1de0f2030b5fa5ba451e666bb6fbc54c4784f7d", checked := Try.checked }
namespace Rows
def none {H : Type} : Left H := { results := [], args := [] }

/-- 'canopylaw13.FoldChecks': WHATEVER THE INPUT: true; the input reads as it did. -/
def foldChecksSpec : ChangeSpec := { name := "foldChecks", fn := fun _ => fun
  | [d1, d2, d3, d4, d5] => { results := [.lit (.bool true)], args := [d1, d2, d3, d4, d5] }
  | _ => none }
def foldChecksRow : OpenClaim := { program := "ytnpbehfhncbjfaa", sum := "a231f76dcbc1acb0c514ce3cb1de0f2030b5fa5ba451e666bb6fbc54c4784f7d", func := "canopy/canopylaw13.FoldChecks", spec := "foldChecks", unfollowed := true, recurses := true, plainKeys := false, apart := false }
def FoldChecksSaid : Prop := foldChecksRow.holds Try.pinned (OpenSpec.ofChange foldChecksSpec)

/-- ITS FALSE NEIGHBOUR: 'it returns false'. Refute it at one input. -/
def foldChecksWrong : ChangeSpec := { name := "foldChecks", fn := fun _ => fun
  | [d1, d2, d3, d4, d5] => { results := [.lit (.bool false)], args := [d1, d2, d3, d4, d5] }
  | _ => none }
def FoldChecksWrongFalsely : Prop := foldChecksRow.holds Try.pinned (OpenSpec.ofChange foldChecksWrong)

/-- 'canopylaw13.FoldAll': WHATEVER THE INPUT: true; the input reads as it did. -/
def foldAllSpec : ChangeSpec := { name := "foldAll", fn := fun _ => fun
  | [d1, d2, d3, d4] => { results := [.lit (.bool true)], args := [d1, d2, d3, d4] }
  | _ => none }
def foldAllRow : OpenClaim := { program := "ytnpbehfhncbjfaa", sum := "a231f76dcbc1acb0c514ce3cb1de0f2030b5fa5ba451e666bb6fbc54c4784f7d", func := "canopy/canopylaw13.FoldAll", spec := "foldAll", unfollowed := true, recurses := true, plainKeys := false, apart := false }
def FoldAllSaid : Prop := foldAllRow.holds Try.pinned (OpenSpec.ofChange foldAllSpec)

/-- ITS FALSE NEIGHBOUR: 'it returns false'. Refute it at one input. -/
def foldAllWrong : ChangeSpec := { name := "foldAll", fn := fun _ => fun
  | [d1, d2, d3, d4] => { results := [.lit (.bool false)], args := [d1, d2, d3, d4] }
  | _ => none }
def FoldAllWrongFalsely : Prop := foldAllRow.holds Try.pinned (OpenSpec.ofChange foldAllWrong)

/-- 'canopylaw13.FoldSmall': WHATEVER THE INPUT: true; the input reads as it did. -/
def foldSmallSpec : ChangeSpec := { name := "foldSmall", fn := fun _ => fun
  | [d1, d2, d3] => { results := [.lit (.bool true)], args := [d1, d2, d3] }
  | _ => none }
def foldSmallRow : OpenClaim := { program := "ytnpbehfhncbjfaa", sum := "a231f76dcbc1acb0c514ce3cb1de0f2030b5fa5ba451e666bb6fbc54c4784f7d", func := "canopy/canopylaw13.FoldSmall", spec := "foldSmall", unfollowed := true, recurses := true, plainKeys := false, apart := false }
def FoldSmallSaid : Prop := foldSmallRow.holds Try.pinned (OpenSpec.ofChange foldSmallSpec)

/-- ITS FALSE NEIGHBOUR: 'it returns false'. Refute it at one input. -/
def foldSmallWrong : ChangeSpec := { name := "foldSmall", fn := fun _ => fun
  | [d1, d2, d3] => { results := [.lit (.bool false)], args := [d1, d2, d3] }
  | _ => none }
def FoldSmallWrongFalsely : Prop := foldSmallRow.holds Try.pinned (OpenSpec.ofChange foldSmallWrong)

/-- 'canopylaw13.FoldTwice': WHATEVER THE INPUT: true; the input reads as it did. -/
def foldTwiceSpec : ChangeSpec := { name := "foldTwice", fn := fun _ => fun
  | [d1, d2, d3] => { results := [.lit (.bool true)], args := [d1, d2, d3] }
  | _ => none }
def foldTwiceRow : OpenClaim := { program := "ytnpbehfhncbjfaa", sum := "a231f76dcbc1acb0c514ce3cb1de0f2030b5fa5ba451e666bb6fbc54c4784f7d", func := "canopy/canopylaw13.FoldTwice", spec := "foldTwice", unfollowed := true, recurses := true, plainKeys := false, apart := false }
def FoldTwiceSaid : Prop := foldTwiceRow.holds Try.pinned (OpenSpec.ofChange foldTwiceSpec)

/-- ITS FALSE NEIGHBOUR: 'it returns false'. Refute it at one input. -/
def foldTwiceWrong : ChangeSpec := { name := "foldTwice", fn := fun _ => fun
  | [d1, d2, d3] => { results := [.lit (.bool false)], args := [d1, d2, d3] }
  | _ => none }
def FoldTwiceWrongFalsely : Prop := foldTwiceRow.holds Try.pinned (OpenSpec.ofChange foldTwiceWrong)

/-- 'canopylaw13.FoldApart': WHATEVER THE INPUT: true; the input reads as it did. -/
def foldApartSpec : ChangeSpec := { name := "foldApart", fn := fun _ => fun
  | [d1, d2, d3, d4, d5] => { results := [.lit (.bool true)], args := [d1, d2, d3, d4, d5] }
  | _ => none }
def foldApartRow : OpenClaim := { program := "ytnpbehfhncbjfaa", sum := "a231f76dcbc1acb0c514ce3cb1de0f2030b5fa5ba451e666bb6fbc54c4784f7d", func := "canopy/canopylaw13.FoldApart", spec := "foldApart", unfollowed := true, recurses := true, plainKeys := false, apart := false }
def FoldApartSaid : Prop := foldApartRow.holds Try.pinned (OpenSpec.ofChange foldApartSpec)

/-- ITS FALSE NEIGHBOUR: 'it returns false'. Refute it at one input. -/
def foldApartWrong : ChangeSpec := { name := "foldApart", fn := fun _ => fun
  | [d1, d2, d3, d4, d5] => { results := [.lit (.bool false)], args := [d1, d2, d3, d4, d5] }
  | _ => none }
def FoldApartWrongFalsely : Prop := foldApartRow.holds Try.pinned (OpenSpec.ofChange foldApartWrong)

/-- 'canopylaw13.FoldKnown': WHATEVER THE INPUT: true; the input reads as it did. -/
def foldKnownSpec : ChangeSpec := { name := "foldKnown", fn := fun _ => fun
  | [d] => { results := [.lit (.bool true)], args := [d] }
  | _ => none }
def foldKnownRow : OpenClaim := { program := "ytnpbehfhncbjfaa", sum := "a231f76dcbc1acb0c514ce3cb1de0f2030b5fa5ba451e666bb6fbc54c4784f7d", func := "canopy/canopylaw13.FoldKnown", spec := "foldKnown", unfollowed := true, recurses := true, plainKeys := false, apart := false }
def FoldKnownSaid : Prop := foldKnownRow.holds Try.pinned (OpenSpec.ofChange foldKnownSpec)

/-- ITS FALSE NEIGHBOUR: 'it returns false'. Refute it at one input. -/
def foldKnownWrong : ChangeSpec := { name := "foldKnown", fn := fun _ => fun
  | [d] => { results := [.lit (.bool false)], args := [d] }
  | _ => none }
def FoldKnownWrongFalsely : Prop := foldKnownRow.holds Try.pinned (OpenSpec.ofChange foldKnownWrong)

/-- 'canopylaw13.FoldPushed': WHATEVER THE INPUT: true; the input reads as it did. -/
def foldPushedSpec : ChangeSpec := { name := "foldPushed", fn := fun _ => fun
  | [d1, d2] => { results := [.lit (.bool true)], args := [d1, d2] }
  | _ => none }
def foldPushedRow : OpenClaim := { program := "ytnpbehfhncbjfaa", sum := "a231f76dcbc1acb0c514ce3cb1de0f2030b5fa5ba451e666bb6fbc54c4784f7d", func := "canopy/canopylaw13.FoldPushed", spec := "foldPushed", unfollowed := true, recurses := true, plainKeys := false, apart := false }
def FoldPushedSaid : Prop := foldPushedRow.holds Try.pinned (OpenSpec.ofChange foldPushedSpec)

/-- ITS FALSE NEIGHBOUR: 'it returns false'. Refute it at one input. -/
def foldPushedWrong : ChangeSpec := { name := "foldPushed", fn := fun _ => fun
  | [d1, d2] => { results := [.lit (.bool false)], args := [d1, d2] }
  | _ => none }
def FoldPushedWrongFalsely : Prop := foldPushedRow.holds Try.pinned (OpenSpec.ofChange foldPushedWrong)

/-- 'canopylaw13.FoldReaches': WHATEVER THE INPUT: true; the input reads as it did. -/
def foldReachesSpec : ChangeSpec := { name := "foldReaches", fn := fun _ => fun
  | [d1, d2, d3] => { results := [.lit (.bool true)], args := [d1, d2, d3] }
  | _ => none }
def foldReachesRow : OpenClaim := { program := "ytnpbehfhncbjfaa", sum := "a231f76dcbc1acb0c514ce3cb1de0f2030b5fa5ba451e666bb6fbc54c4784f7d", func := "canopy/canopylaw13.FoldReaches", spec := "foldReaches", unfollowed := true, recurses := true, plainKeys := false, apart := false }
def FoldReachesSaid : Prop := foldReachesRow.holds Try.pinned (OpenSpec.ofChange foldReachesSpec)

/-- ITS FALSE NEIGHBOUR: 'it returns false'. Refute it at one input. -/
def foldReachesWrong : ChangeSpec := { name := "foldReaches", fn := fun _ => fun
  | [d1, d2, d3] => { results := [.lit (.bool false)], args := [d1, d2, d3] }
  | _ => none }
def FoldReachesWrongFalsely : Prop := foldReachesRow.holds Try.pinned (OpenSpec.ofChange foldReachesWrong)

/-- 'canopylaw13.FoldErrs': WHATEVER THE INPUT: true; the input reads as it did. -/
def foldErrsSpec : ChangeSpec := { name := "foldErrs", fn := fun _ => fun
  | [d1, d2, d3] => { results := [.lit (.bool true)], args := [d1, d2, d3] }
  | _ => none }
def foldErrsRow : OpenClaim := { program := "ytnpbehfhncbjfaa", sum := "a231f76dcbc1acb0c514ce3cb1de0f2030b5fa5ba451e666bb6fbc54c4784f7d", func := "canopy/canopylaw13.FoldErrs", spec := "foldErrs", unfollowed := true, recurses := true, plainKeys := false, apart := false }
def FoldErrsSaid : Prop := foldErrsRow.holds Try.pinned (OpenSpec.ofChange foldErrsSpec)

/-- ITS FALSE NEIGHBOUR: 'it returns false'. Refute it at one input. -/
def foldErrsWrong : ChangeSpec := { name := "foldErrs", fn := fun _ => fun
  | [d1, d2, d3] => { results := [.lit (.bool false)], args := [d1, d2, d3] }
  | _ => none }
def FoldErrsWrongFalsely : Prop := foldErrsRow.holds Try.pinned (OpenSpec.ofChange foldErrsWrong)

/-- 'canopylaw13.FoldOwn': WHATEVER THE INPUT: true; the input reads as it did. -/
def foldOwnSpec : ChangeSpec := { name := "foldOwn", fn := fun _ => fun
  | [d1, d2] => { results := [.lit (.bool true)], args := [d1, d2] }
  | _ => none }
def foldOwnRow : OpenClaim := { program := "ytnpbehfhncbjfaa", sum := "a231f76dcbc1acb0c514ce3cb1de0f2030b5fa5ba451e666bb6fbc54c4784f7d", func := "canopy/canopylaw13.FoldOwn", spec := "foldOwn", unfollowed := true, recurses := true, plainKeys := false, apart := false }
def FoldOwnSaid : Prop := foldOwnRow.holds Try.pinned (OpenSpec.ofChange foldOwnSpec)

/-- ITS FALSE NEIGHBOUR: 'it returns false'. Refute it at one input. -/
def foldOwnWrong : ChangeSpec := { name := "foldOwn", fn := fun _ => fun
  | [d1, d2] => { results := [.lit (.bool false)], args := [d1, d2] }
  | _ => none }
def FoldOwnWrongFalsely : Prop := foldOwnRow.holds Try.pinned (OpenSpec.ofChange foldOwnWrong)

/- THE SECOND FORM. 'bulk': how many values and letters a reading holds, each counted each time it is reached (what is shared counts as often as it is met; a slice's spare places count too). A statement '..UptoSaid' is the law's where the arguments, and the package variables that the reading takes, are together of bulk at most 1048576: NARROWER than '..Said'. Prove '..Said' where nothing that the law and all that it calls make is longer than what came in: it says more and counts as full. Else prove '..UptoSaid'. A law counts once. -/
mutual
def uptoBulk {H : Type} : DataW H → Nat
  | .lit (.string bytes) => bytes.length + 1
  | .lit _ => 1
  | .nil => 1
  | .ptr d => uptoBulk d + 1
  | .slice elems spare => uptoBulkAll elems + uptoBulkAll spare + 1
  | .agg parts => uptoBulkAll parts + 1
  | .iface _ d => uptoBulk d + 1
  | .map entries => uptoBulkEntries entries + 1
  | .held _ => 1
def uptoBulkAll {H : Type} : List (DataW H) → Nat
  | [] => 0
  | d :: r => uptoBulk d + uptoBulkAll r
def uptoBulkEntries {H : Type} : List (Lit × DataW H) → Nat
  | [] => 0
  | x :: r => uptoBulkEntry x + uptoBulkEntries r
def uptoBulkEntry {H : Type} : Lit × DataW H → Nat
  | (.string bytes, d) => bytes.length + uptoBulk d + 1
  | (_, d) => uptoBulk d + 1
 end
def uptoSmall : (H : Type) → List (DataW H) → Bool := fun _ ds => decide (uptoBulkAll ds ≤ 1048576)
def OpenSpec.upto (s : _root_.Go.ChangeSpec) : _root_.Go.OpenSpec := { _root_.Go.OpenSpec.ofChange s with cond := some uptoSmall }

/-- 'canopylaw13.FoldChecks', WHERE WHAT IT READS IS OF BULK AT MOST 1048576: true; the input reads as it did. -/
def foldChecksUptoRow : OpenClaim := { program := "ytnpbehfhncbjfaa", sum := "a231f76dcbc1acb0c514ce3cb1de0f2030b5fa5ba451e666bb6fbc54c4784f7d", func := "canopy/canopylaw13.FoldChecks", spec := "foldChecks", unfollowed := true, recurses := true, plainKeys := false, apart := false, narrowed := true }
def FoldChecksUptoSaid : Prop := foldChecksUptoRow.holds Try.pinned (OpenSpec.upto foldChecksSpec)

/-- 'canopylaw13.FoldAll', WHERE WHAT IT READS IS OF BULK AT MOST 1048576: true; the input reads as it did. -/
def foldAllUptoRow : OpenClaim := { program := "ytnpbehfhncbjfaa", sum := "a231f76dcbc1acb0c514ce3cb1de0f2030b5fa5ba451e666bb6fbc54c4784f7d", func := "canopy/canopylaw13.FoldAll", spec := "foldAll", unfollowed := true, recurses := true, plainKeys := false, apart := false, narrowed := true }
def FoldAllUptoSaid : Prop := foldAllUptoRow.holds Try.pinned (OpenSpec.upto foldAllSpec)

/-- 'canopylaw13.FoldSmall', WHERE WHAT IT READS IS OF BULK AT MOST 1048576: true; the input reads as it did. -/
def foldSmallUptoRow : OpenClaim := { program := "ytnpbehfhncbjfaa", sum := "a231f76dcbc1acb0c514ce3cb1de0f2030b5fa5ba451e666bb6fbc54c4784f7d", func := "canopy/canopylaw13.FoldSmall", spec := "foldSmall", unfollowed := true, recurses := true, plainKeys := false, apart := false, narrowed := true }
def FoldSmallUptoSaid : Prop := foldSmallUptoRow.holds Try.pinned (OpenSpec.upto foldSmallSpec)

/-- 'canopylaw13.FoldTwice', WHERE WHAT IT READS IS OF BULK AT MOST 1048576: true; the input reads as it did. -/
def foldTwiceUptoRow : OpenClaim := { program := "ytnpbehfhncbjfaa", sum := "a231f76dcbc1acb0c514ce3cb1de0f2030b5fa5ba451e666bb6fbc54c4784f7d", func := "canopy/canopylaw13.FoldTwice", spec := "foldTwice", unfollowed := true, recurses := true, plainKeys := false, apart := false, narrowed := true }
def FoldTwiceUptoSaid : Prop := foldTwiceUptoRow.holds Try.pinned (OpenSpec.upto foldTwiceSpec)

/-- 'canopylaw13.FoldApart', WHERE WHAT IT READS IS OF BULK AT MOST 1048576: true; the input reads as it did. -/
def foldApartUptoRow : OpenClaim := { program := "ytnpbehfhncbjfaa", sum := "a231f76dcbc1acb0c514ce3cb1de0f2030b5fa5ba451e666bb6fbc54c4784f7d", func := "canopy/canopylaw13.FoldApart", spec := "foldApart", unfollowed := true, recurses := true, plainKeys := false, apart := false, narrowed := true }
def FoldApartUptoSaid : Prop := foldApartUptoRow.holds Try.pinned (OpenSpec.upto foldApartSpec)

/-- 'canopylaw13.FoldKnown', WHERE WHAT IT READS IS OF BULK AT MOST 1048576: true; the input reads as it did. -/
def foldKnownUptoRow : OpenClaim := { program := "ytnpbehfhncbjfaa", sum := "a231f76dcbc1acb0c514ce3cb1de0f2030b5fa5ba451e666bb6fbc54c4784f7d", func := "canopy/canopylaw13.FoldKnown", spec := "foldKnown", unfollowed := true, recurses := true, plainKeys := false, apart := false, narrowed := true }
def FoldKnownUptoSaid : Prop := foldKnownUptoRow.holds Try.pinned (OpenSpec.upto foldKnownSpec)

/-- 'canopylaw13.FoldPushed', WHERE WHAT IT READS IS OF BULK AT MOST 1048576: true; the input reads as it did. -/
def foldPushedUptoRow : OpenClaim := { program := "ytnpbehfhncbjfaa", sum := "a231f76dcbc1acb0c514ce3cb1de0f2030b5fa5ba451e666bb6fbc54c4784f7d", func := "canopy/canopylaw13.FoldPushed", spec := "foldPushed", unfollowed := true, recurses := true, plainKeys := false, apart := false, narrowed := true }
def FoldPushedUptoSaid : Prop := foldPushedUptoRow.holds Try.pinned (OpenSpec.upto foldPushedSpec)

/-- 'canopylaw13.FoldReaches', WHERE WHAT IT READS IS OF BULK AT MOST 1048576: true; the input reads as it did. -/
def foldReachesUptoRow : OpenClaim := { program := "ytnpbehfhncbjfaa", sum := "a231f76dcbc1acb0c514ce3cb1de0f2030b5fa5ba451e666bb6fbc54c4784f7d", func := "canopy/canopylaw13.FoldReaches", spec := "foldReaches", unfollowed := true, recurses := true, plainKeys := false, apart := false, narrowed := true }
def FoldReachesUptoSaid : Prop := foldReachesUptoRow.holds Try.pinned (OpenSpec.upto foldReachesSpec)

/-- 'canopylaw13.FoldErrs', WHERE WHAT IT READS IS OF BULK AT MOST 1048576: true; the input reads as it did. -/
def foldErrsUptoRow : OpenClaim := { program := "ytnpbehfhncbjfaa", sum := "a231f76dcbc1acb0c514ce3cb1de0f2030b5fa5ba451e666bb6fbc54c4784f7d", func := "canopy/canopylaw13.FoldErrs", spec := "foldErrs", unfollowed := true, recurses := true, plainKeys := false, apart := false, narrowed := true }
def FoldErrsUptoSaid : Prop := foldErrsUptoRow.holds Try.pinned (OpenSpec.upto foldErrsSpec)

/-- 'canopylaw13.FoldOwn', WHERE WHAT IT READS IS OF BULK AT MOST 1048576: true; the input reads as it did. -/
def foldOwnUptoRow : OpenClaim := { program := "ytnpbehfhncbjfaa", sum := "a231f76dcbc1acb0c514ce3cb1de0f2030b5fa5ba451e666bb6fbc54c4784f7d", func := "canopy/canopylaw13.FoldOwn", spec := "foldOwn", unfollowed := true, recurses := true, plainKeys := false, apart := false, narrowed := true }
def FoldOwnUptoSaid : Prop := foldOwnUptoRow.holds Try.pinned (OpenSpec.upto foldOwnSpec)

end Rows
end Go.Proofs.Ytnpbehfhncbjfaa
