/-
  No cell of these rows narrows 'for every input' (looked for: loops, veiled, ifaces, maps, wideKeys, modest, calm, conditions, laid).
  DERIVED. THE GIVEN ROWS OF THIS SEAT. 10 by the template 'for every input the law returns true; each argument reads behind the call as it read before'; 0 by the template 'total and deterministic' (their statements: YtebbjimmgblcpaaTotals.lean).
  GIVEN WITH THE SEED: the statements are not yours to turn. If you find one false, say at which input.
  Laid BY PROGRAM, IN A SANDBOX (cutbox-rows.mjs): the forced cells as the released guide's own fill.sh prints them over the translation 8cdd453929085a76… (all of the seat's roots in one cut). By AI agents, Wed Nov 11 2026. No macro, syntax, notation, axiom, sorry.
-/
import Derived.Test.YtebbjimmgblcpaaChecked
import GoSem.Claim
import GoSem.ClaimJoined
import GoSem.ClaimMapViews
import Derived.JoinedTies
import Derived.KernelRfl
namespace Go.Proofs.Ytebbjimmgblcpaa
/- THE CELL 'sum', in the pinned program and in every row, IS THE sha256 OF THE DUMP (.gsa) THAT YtebbjimmgblcpaaProg.lean LOADS. Nothing in Lean hashes anything: it is a label: what it is worth is what the hold of that sum in a sandbox is worth. -/
noncomputable def Try.pinned : Pinned := { name := "ytebbjimmgblcpaa", sum := "8cdd453929085a76a97a08884c0a0015667a2c7b5b415ba323d84dd3125236f1", checked := Try.checked }
namespace Rows
def none {H : Type} : Left H := { results := [], args := [] }

/-- 'canopylaw14.FeedPlays': WHATEVER THE INPUT: true; the input reads as it did. -/
def feedPlaysSpec : ChangeSpec := { name := "feedPlays", fn := fun _ => fun
  | [d1, d2, d3, d4, d5, d6, d7, d8, d9, d10] => { results := [.lit (.bool true)], args := [d1, d2, d3, d4, d5, d6, d7, d8, d9, d10] }
  | _ => none }
def feedPlaysRow : OpenClaim := { program := "ytebbjimmgblcpaa", sum := "8cdd453929085a76a97a08884c0a0015667a2c7b5b415ba323d84dd3125236f1", func := "canopy/canopylaw14.FeedPlays", spec := "feedPlays", plainKeys := false, apart := false }
def FeedPlaysSaid : Prop := feedPlaysRow.holds Try.pinned (OpenSpec.ofChange feedPlaysSpec)

/-- ITS FALSE NEIGHBOUR: 'it returns false'. Refute it at one input. -/
def feedPlaysWrong : ChangeSpec := { name := "feedPlays", fn := fun _ => fun
  | [d1, d2, d3, d4, d5, d6, d7, d8, d9, d10] => { results := [.lit (.bool false)], args := [d1, d2, d3, d4, d5, d6, d7, d8, d9, d10] }
  | _ => none }
def FeedPlaysWrongFalsely : Prop := feedPlaysRow.holds Try.pinned (OpenSpec.ofChange feedPlaysWrong)

/-- 'canopylaw14.FeedCuts': WHATEVER THE INPUT: true; the input reads as it did. -/
def feedCutsSpec : ChangeSpec := { name := "feedCuts", fn := fun _ => fun
  | [d1, d2, d3, d4, d5, d6, d7, d8] => { results := [.lit (.bool true)], args := [d1, d2, d3, d4, d5, d6, d7, d8] }
  | _ => none }
def feedCutsRow : OpenClaim := { program := "ytebbjimmgblcpaa", sum := "8cdd453929085a76a97a08884c0a0015667a2c7b5b415ba323d84dd3125236f1", func := "canopy/canopylaw14.FeedCuts", spec := "feedCuts", plainKeys := false, apart := false }
def FeedCutsSaid : Prop := feedCutsRow.holds Try.pinned (OpenSpec.ofChange feedCutsSpec)

/-- ITS FALSE NEIGHBOUR: 'it returns false'. Refute it at one input. -/
def feedCutsWrong : ChangeSpec := { name := "feedCuts", fn := fun _ => fun
  | [d1, d2, d3, d4, d5, d6, d7, d8] => { results := [.lit (.bool false)], args := [d1, d2, d3, d4, d5, d6, d7, d8] }
  | _ => none }
def FeedCutsWrongFalsely : Prop := feedCutsRow.holds Try.pinned (OpenSpec.ofChange feedCutsWrong)

/-- 'canopylaw14.FeedTakes': WHATEVER THE INPUT: true; the input reads as it did. -/
def feedTakesSpec : ChangeSpec := { name := "feedTakes", fn := fun _ => fun
  | [d1, d2, d3, d4, d5, d6] => { results := [.lit (.bool true)], args := [d1, d2, d3, d4, d5, d6] }
  | _ => none }
def feedTakesRow : OpenClaim := { program := "ytebbjimmgblcpaa", sum := "8cdd453929085a76a97a08884c0a0015667a2c7b5b415ba323d84dd3125236f1", func := "canopy/canopylaw14.FeedTakes", spec := "feedTakes", plainKeys := false, apart := false }
def FeedTakesSaid : Prop := feedTakesRow.holds Try.pinned (OpenSpec.ofChange feedTakesSpec)

/-- ITS FALSE NEIGHBOUR: 'it returns false'. Refute it at one input. -/
def feedTakesWrong : ChangeSpec := { name := "feedTakes", fn := fun _ => fun
  | [d1, d2, d3, d4, d5, d6] => { results := [.lit (.bool false)], args := [d1, d2, d3, d4, d5, d6] }
  | _ => none }
def FeedTakesWrongFalsely : Prop := feedTakesRow.holds Try.pinned (OpenSpec.ofChange feedTakesWrong)

/-- 'canopylaw14.FeedTokens': WHATEVER THE INPUT: true; the input reads as it did. -/
def feedTokensSpec : ChangeSpec := { name := "feedTokens", fn := fun _ => fun
  | [d1, d2, d3, d4, d5, d6, d7] => { results := [.lit (.bool true)], args := [d1, d2, d3, d4, d5, d6, d7] }
  | _ => none }
def feedTokensRow : OpenClaim := { program := "ytebbjimmgblcpaa", sum := "8cdd453929085a76a97a08884c0a0015667a2c7b5b415ba323d84dd3125236f1", func := "canopy/canopylaw14.FeedTokens", spec := "feedTokens", plainKeys := false, apart := false }
def FeedTokensSaid : Prop := feedTokensRow.holds Try.pinned (OpenSpec.ofChange feedTokensSpec)

/-- ITS FALSE NEIGHBOUR: 'it returns false'. Refute it at one input. -/
def feedTokensWrong : ChangeSpec := { name := "feedTokens", fn := fun _ => fun
  | [d1, d2, d3, d4, d5, d6, d7] => { results := [.lit (.bool false)], args := [d1, d2, d3, d4, d5, d6, d7] }
  | _ => none }
def FeedTokensWrongFalsely : Prop := feedTokensRow.holds Try.pinned (OpenSpec.ofChange feedTokensWrong)

/-- 'canopylaw14.FeedEnds': WHATEVER THE INPUT: true; the input reads as it did. -/
def feedEndsSpec : ChangeSpec := { name := "feedEnds", fn := fun _ => fun
  | [d1, d2, d3, d4, d5] => { results := [.lit (.bool true)], args := [d1, d2, d3, d4, d5] }
  | _ => none }
def feedEndsRow : OpenClaim := { program := "ytebbjimmgblcpaa", sum := "8cdd453929085a76a97a08884c0a0015667a2c7b5b415ba323d84dd3125236f1", func := "canopy/canopylaw14.FeedEnds", spec := "feedEnds", plainKeys := false, apart := false }
def FeedEndsSaid : Prop := feedEndsRow.holds Try.pinned (OpenSpec.ofChange feedEndsSpec)

/-- ITS FALSE NEIGHBOUR: 'it returns false'. Refute it at one input. -/
def feedEndsWrong : ChangeSpec := { name := "feedEnds", fn := fun _ => fun
  | [d1, d2, d3, d4, d5] => { results := [.lit (.bool false)], args := [d1, d2, d3, d4, d5] }
  | _ => none }
def FeedEndsWrongFalsely : Prop := feedEndsRow.holds Try.pinned (OpenSpec.ofChange feedEndsWrong)

/-- 'canopylaw14.FeedKnown': WHATEVER THE INPUT: true; the input reads as it did. -/
def feedKnownSpec : ChangeSpec := { name := "feedKnown", fn := fun _ => fun
  | [d] => { results := [.lit (.bool true)], args := [d] }
  | _ => none }
def feedKnownRow : OpenClaim := { program := "ytebbjimmgblcpaa", sum := "8cdd453929085a76a97a08884c0a0015667a2c7b5b415ba323d84dd3125236f1", func := "canopy/canopylaw14.FeedKnown", spec := "feedKnown", plainKeys := false, apart := false }
def FeedKnownSaid : Prop := feedKnownRow.holds Try.pinned (OpenSpec.ofChange feedKnownSpec)

/-- ITS FALSE NEIGHBOUR: 'it returns false'. Refute it at one input. -/
def feedKnownWrong : ChangeSpec := { name := "feedKnown", fn := fun _ => fun
  | [d] => { results := [.lit (.bool false)], args := [d] }
  | _ => none }
def FeedKnownWrongFalsely : Prop := feedKnownRow.holds Try.pinned (OpenSpec.ofChange feedKnownWrong)

/-- 'canopylaw14.FeedSoon': WHATEVER THE INPUT: true; the input reads as it did. -/
def feedSoonSpec : ChangeSpec := { name := "feedSoon", fn := fun _ => fun
  | [d1, d2, d3, d4, d5] => { results := [.lit (.bool true)], args := [d1, d2, d3, d4, d5] }
  | _ => none }
def feedSoonRow : OpenClaim := { program := "ytebbjimmgblcpaa", sum := "8cdd453929085a76a97a08884c0a0015667a2c7b5b415ba323d84dd3125236f1", func := "canopy/canopylaw14.FeedSoon", spec := "feedSoon", plainKeys := false, apart := false }
def FeedSoonSaid : Prop := feedSoonRow.holds Try.pinned (OpenSpec.ofChange feedSoonSpec)

/-- ITS FALSE NEIGHBOUR: 'it returns false'. Refute it at one input. -/
def feedSoonWrong : ChangeSpec := { name := "feedSoon", fn := fun _ => fun
  | [d1, d2, d3, d4, d5] => { results := [.lit (.bool false)], args := [d1, d2, d3, d4, d5] }
  | _ => none }
def FeedSoonWrongFalsely : Prop := feedSoonRow.holds Try.pinned (OpenSpec.ofChange feedSoonWrong)

/-- 'canopylaw14.FeedDeep': WHATEVER THE INPUT: true; the input reads as it did. -/
def feedDeepSpec : ChangeSpec := { name := "feedDeep", fn := fun _ => fun
  | [d1, d2, d3, d4] => { results := [.lit (.bool true)], args := [d1, d2, d3, d4] }
  | _ => none }
def feedDeepRow : OpenClaim := { program := "ytebbjimmgblcpaa", sum := "8cdd453929085a76a97a08884c0a0015667a2c7b5b415ba323d84dd3125236f1", func := "canopy/canopylaw14.FeedDeep", spec := "feedDeep", plainKeys := false, apart := false }
def FeedDeepSaid : Prop := feedDeepRow.holds Try.pinned (OpenSpec.ofChange feedDeepSpec)

/-- ITS FALSE NEIGHBOUR: 'it returns false'. Refute it at one input. -/
def feedDeepWrong : ChangeSpec := { name := "feedDeep", fn := fun _ => fun
  | [d1, d2, d3, d4] => { results := [.lit (.bool false)], args := [d1, d2, d3, d4] }
  | _ => none }
def FeedDeepWrongFalsely : Prop := feedDeepRow.holds Try.pinned (OpenSpec.ofChange feedDeepWrong)

/-- 'canopylaw14.FeedApart': WHATEVER THE INPUT: true; the input reads as it did. -/
def feedApartSpec : ChangeSpec := { name := "feedApart", fn := fun _ => fun
  | [d1, d2, d3, d4] => { results := [.lit (.bool true)], args := [d1, d2, d3, d4] }
  | _ => none }
def feedApartRow : OpenClaim := { program := "ytebbjimmgblcpaa", sum := "8cdd453929085a76a97a08884c0a0015667a2c7b5b415ba323d84dd3125236f1", func := "canopy/canopylaw14.FeedApart", spec := "feedApart", plainKeys := false, apart := false }
def FeedApartSaid : Prop := feedApartRow.holds Try.pinned (OpenSpec.ofChange feedApartSpec)

/-- ITS FALSE NEIGHBOUR: 'it returns false'. Refute it at one input. -/
def feedApartWrong : ChangeSpec := { name := "feedApart", fn := fun _ => fun
  | [d1, d2, d3, d4] => { results := [.lit (.bool false)], args := [d1, d2, d3, d4] }
  | _ => none }
def FeedApartWrongFalsely : Prop := feedApartRow.holds Try.pinned (OpenSpec.ofChange feedApartWrong)

/-- 'canopylaw14.FeedOwn': WHATEVER THE INPUT: true; the input reads as it did. -/
def feedOwnSpec : ChangeSpec := { name := "feedOwn", fn := fun _ => fun
  | [d1, d2, d3, d4] => { results := [.lit (.bool true)], args := [d1, d2, d3, d4] }
  | _ => none }
def feedOwnRow : OpenClaim := { program := "ytebbjimmgblcpaa", sum := "8cdd453929085a76a97a08884c0a0015667a2c7b5b415ba323d84dd3125236f1", func := "canopy/canopylaw14.FeedOwn", spec := "feedOwn", plainKeys := false, apart := false }
def FeedOwnSaid : Prop := feedOwnRow.holds Try.pinned (OpenSpec.ofChange feedOwnSpec)

/-- ITS FALSE NEIGHBOUR: 'it returns false'. Refute it at one input. -/
def feedOwnWrong : ChangeSpec := { name := "feedOwn", fn := fun _ => fun
  | [d1, d2, d3, d4] => { results := [.lit (.bool false)], args := [d1, d2, d3, d4] }
  | _ => none }
def FeedOwnWrongFalsely : Prop := feedOwnRow.holds Try.pinned (OpenSpec.ofChange feedOwnWrong)

/- THE SECOND FORM. 'bulk': how many values and letters a reading holds, each counted each time it is reached (what is shared counts as often as it is met; a slice's spare places count too). A statement '..UptoSaid' is the law's where the arguments, and the package variables that the reading takes, are together of bulk at most 1048576: NARROWER than '..Said'. Prove '..Said' where nothing that the law and all that it calls make is longer than what came in: it says more and counts as full. Else prove '..UptoSaid'. A law counts once. -/
mutual
def uptoBulk {H : Type} : DataW H → Nat
  | .lit (.string bytes) => bytes.length + 1
  | .lit _ => 1
  | .nil => 1
  | .ptr d => uptoBulk d + 1
  | .slice elems spare => uptoBulkAll elems + uptoBulkAll spare + 1
  | .agg parts => uptoBulkAll parts + 1
  | .iface _ d => uptoBulk d + 1
  | .map entries => uptoBulkEntries entries + 1
  | .held _ => 1
def uptoBulkAll {H : Type} : List (DataW H) → Nat
  | [] => 0
  | d :: r => uptoBulk d + uptoBulkAll r
def uptoBulkEntries {H : Type} : List (Lit × DataW H) → Nat
  | [] => 0
  | x :: r => uptoBulkEntry x + uptoBulkEntries r
def uptoBulkEntry {H : Type} : Lit × DataW H → Nat
  | (.string bytes, d) => bytes.length + uptoBulk d + 1
  | (_, d) => uptoBulk d + 1
 end
def uptoSmall : (H : Type) → List (DataW H) → Bool := fun _ ds => decide (uptoBulkAll ds ≤ 1048576)
def OpenSpec.upto (s : _root_.Go.ChangeSpec) : _root_.Go.OpenSpec := { _root_.Go.OpenSpec.ofChange s with cond := some uptoSmall }

/-- 'canopylaw14.FeedPlays', WHERE WHAT IT READS IS OF BULK AT MOST 1048576: true; the input reads as it did. -/
def feedPlaysUptoRow : OpenClaim := { program := "ytebbjimmgblcpaa", sum := "8cdd453929085a76a97a08884c0a0015667a2c7b5b415ba323d84dd3125236f1", func := "canopy/canopylaw14.FeedPlays", spec := "feedPlays", plainKeys := false, apart := false, narrowed := true }
def FeedPlaysUptoSaid : Prop := feedPlaysUptoRow.holds Try.pinned (OpenSpec.upto feedPlaysSpec)

/-- 'canopylaw14.FeedCuts', WHERE WHAT IT READS IS OF BULK AT MOST 1048576: true; the input reads as it did. -/
def feedCutsUptoRow : OpenClaim := { program := "ytebbjimmgblcpaa", sum := "8cdd453929085a76a97a08884c0a0015667a2c7b5b415ba323d84dd3125236f1", func := "canopy/canopylaw14.FeedCuts", spec := "feedCuts", plainKeys := false, apart := false, narrowed := true }
def FeedCutsUptoSaid : Prop := feedCutsUptoRow.holds Try.pinned (OpenSpec.upto feedCutsSpec)

/-- 'canopylaw14.FeedTakes', WHERE WHAT IT READS IS OF BULK AT MOST 1048576: true; the input reads as it did. -/
def feedTakesUptoRow : OpenClaim := { program := "ytebbjimmgblcpaa", sum := "8cdd453929085a76a97a08884c0a0015667a2c7b5b415ba323d84dd3125236f1", func := "canopy/canopylaw14.FeedTakes", spec := "feedTakes", plainKeys := false, apart := false, narrowed := true }
def FeedTakesUptoSaid : Prop := feedTakesUptoRow.holds Try.pinned (OpenSpec.upto feedTakesSpec)

/-- 'canopylaw14.FeedTokens', WHERE WHAT IT READS IS OF BULK AT MOST 1048576: true; the input reads as it did. -/
def feedTokensUptoRow : OpenClaim := { program := "ytebbjimmgblcpaa", sum := "8cdd453929085a76a97a08884c0a0015667a2c7b5b415ba323d84dd3125236f1", func := "canopy/canopylaw14.FeedTokens", spec := "feedTokens", plainKeys := false, apart := false, narrowed := true }
def FeedTokensUptoSaid : Prop := feedTokensUptoRow.holds Try.pinned (OpenSpec.upto feedTokensSpec)

/-- 'canopylaw14.FeedEnds', WHERE WHAT IT READS IS OF BULK AT MOST 1048576: true; the input reads as it did. -/
def feedEndsUptoRow : OpenClaim := { program := "ytebbjimmgblcpaa", sum := "8cdd453929085a76a97a08884c0a0015667a2c7b5b415ba323d84dd3125236f1", func := "canopy/canopylaw14.FeedEnds", spec := "feedEnds", plainKeys := false, apart := false, narrowed := true }
def FeedEndsUptoSaid : Prop := feedEndsUptoRow.holds Try.pinned (OpenSpec.upto feedEndsSpec)

/-- 'canopylaw14.FeedKnown', WHERE WHAT IT READS IS OF BULK AT MOST 1048576: true; the input reads as it did. -/
def feedKnownUptoRow : OpenClaim := { program := "ytebbjimmgblcpaa", sum := "8cdd453929085a76a97a08884c0a0015667a2c7b5b415ba323d84dd3125236f1", func := "canopy/canopylaw14.FeedKnown", spec := "feedKnown", plainKeys := false, apart := false, narrowed := true }
def FeedKnownUptoSaid : Prop := feedKnownUptoRow.holds Try.pinned (OpenSpec.upto feedKnownSpec)

/-- 'canopylaw14.FeedSoon', WHERE WHAT IT READS IS OF BULK AT MOST 1048576: true; the input reads as it did. -/
def feedSoonUptoRow : OpenClaim := { program := "ytebbjimmgblcpaa", sum := "8cdd453929085a76a97a08884c0a0015667a2c7b5b415ba323d84dd3125236f1", func := "canopy/canopylaw14.FeedSoon", spec := "feedSoon", plainKeys := false, apart := false, narrowed := true }
def FeedSoonUptoSaid : Prop := feedSoonUptoRow.holds Try.pinned (OpenSpec.upto feedSoonSpec)

/-- 'canopylaw14.FeedDeep', WHERE WHAT IT READS IS OF BULK AT MOST 1048576: true; the input reads as it did. -/
def feedDeepUptoRow : OpenClaim := { program := "ytebbjimmgblcpaa", sum := "8cdd453929085a76a97a08884c0a0015667a2c7b5b415ba323d84dd3125236f1", func := "canopy/canopylaw14.FeedDeep", spec := "feedDeep", plainKeys := false, apart := false, narrowed := true }
def FeedDeepUptoSaid : Prop := feedDeepUptoRow.holds Try.pinned (OpenSpec.upto feedDeepSpec)

/-- 'canopylaw14.FeedApart', WHERE WHAT IT READS IS OF BULK AT MOST 1048576: true; the input reads as it did. -/
def feedApartUptoRow : OpenClaim := { program := "ytebbjimmgblcpaa", sum := "8cdd453929085a76a97a08884c0a0015667a2c7b5b415ba323d84dd3125236f1", func := "canopy/canopylaw14.FeedApart", spec := "feedApart", plainKeys := false, apart := false, narrowed := true }
def FeedApartUptoSaid : Prop := feedApartUptoRow.holds Try.pinned (OpenSpec.upto feedApartSpec)

/-- 'canopylaw14.FeedOwn', WHERE WHAT IT READS IS OF BULK AT MOST 1048576: true; the input reads as it did. -/
def feedOwnUptoRow : OpenClaim := { program := "ytebbjimmgblcpaa", sum := "8cdd453929085a76a97a08884c0a0015667a2c7b5b415ba323d84dd3125236f1", func := "canopy/canopylaw14.FeedOwn", spec := "feedOwn", plainKeys := false, apart := false, narrowed := true }
def FeedOwnUptoSaid : Prop := feedOwnUptoRow.holds Try.pinned (OpenSpec.upto feedOwnSpec)

end Rows
end Go.Proofs.Ytebbjimmgblcpaa
