/-
  No cell of these rows narrows 'for every input' (looked for: loops, veiled, ifaces, maps, wideKeys, modest, calm, conditions, laid).
  DERIVED. THE GIVEN ROWS OF THIS SEAT. 9 by the template 'for every input the law returns true; each argument reads behind the call as it read before'; 0 by the template 'total and deterministic' (their statements: YtlenlhlipmkeeaaTotals.lean).
  GIVEN WITH THE SEED: the statements are not yours to turn. If you find one false, say at which input.
  Laid BY PROGRAM, IN A SANDBOX (cutbox-rows.mjs): the forced cells as the released guide's own fill.sh prints them over the translation 956648dbb2bbbd8c… (all of the seat's roots in one cut). By AI agents, Wed Nov 11 2026. No macro, syntax, notation, axiom, sorry.
-/
import Derived.Test.YtlenlhlipmkeeaaChecked
import GoSem.Claim
import GoSem.ClaimJoined
import GoSem.ClaimMapViews
import Derived.JoinedTies
import Derived.KernelRfl
namespace Go.Proofs.Ytlenlhlipmkeeaa
/- THE CELL 'sum', in the pinned program and in every row, IS THE sha256 OF THE DUMP (.gsa) THAT YtlenlhlipmkeeaaProg.lean LOADS. Nothing in Lean hashes anything: it is a label: what it is worth is what the hold of that sum in a sandbox is worth. -/
noncomputable def Try.pinned : Pinned := { name := "ytlenlhlipmkeeaa", sum := "956648dbb2bbbd8c77c574d9d396608d31ae397a0b43be4ba0580bbb11618bc5", checked := Try.checked }
namespace Rows
def none {H : Type} : Left H := { results := [], args := [] }

/-- 'canopylaw8.SchemaReads': WHATEVER THE INPUT: true; the input reads as it did. -/
def schemaReadsSpec : ChangeSpec := { name := "schemaReads", fn := fun _ => fun
  | [d1, d2, d3, d4, d5, d6, d7] => { results := [.lit (.bool true)], args := [d1, d2, d3, d4, d5, d6, d7] }
  | _ => none }
def schemaReadsRow : OpenClaim := { program := "ytlenlhlipmkeeaa", sum := "956648dbb2bbbd8c77c574d9d396608d31ae397a0b43be4ba0580bbb11618bc5", func := "canopy/canopylaw8.SchemaReads", spec := "schemaReads", inPlace := ["internal/abi.NoEscape", "internal/bytealg.MakeNoZero"], unfollowed := true, recurses := true, plainKeys := false, apart := false }
def SchemaReadsSaid : Prop := schemaReadsRow.holds Try.pinned (OpenSpec.ofChange schemaReadsSpec)

/-- ITS FALSE NEIGHBOUR: 'it returns false'. Refute it at one input. -/
def schemaReadsWrong : ChangeSpec := { name := "schemaReads", fn := fun _ => fun
  | [d1, d2, d3, d4, d5, d6, d7] => { results := [.lit (.bool false)], args := [d1, d2, d3, d4, d5, d6, d7] }
  | _ => none }
def SchemaReadsWrongFalsely : Prop := schemaReadsRow.holds Try.pinned (OpenSpec.ofChange schemaReadsWrong)

/-- 'canopylaw8.SchemaHas': WHATEVER THE INPUT: true; the input reads as it did. -/
def schemaHasSpec : ChangeSpec := { name := "schemaHas", fn := fun _ => fun
  | [d1, d2, d3, d4, d5] => { results := [.lit (.bool true)], args := [d1, d2, d3, d4, d5] }
  | _ => none }
def schemaHasRow : OpenClaim := { program := "ytlenlhlipmkeeaa", sum := "956648dbb2bbbd8c77c574d9d396608d31ae397a0b43be4ba0580bbb11618bc5", func := "canopy/canopylaw8.SchemaHas", spec := "schemaHas", inPlace := ["internal/abi.NoEscape", "internal/bytealg.MakeNoZero"], unfollowed := true, recurses := true, plainKeys := false, apart := false }
def SchemaHasSaid : Prop := schemaHasRow.holds Try.pinned (OpenSpec.ofChange schemaHasSpec)

/-- ITS FALSE NEIGHBOUR: 'it returns false'. Refute it at one input. -/
def schemaHasWrong : ChangeSpec := { name := "schemaHas", fn := fun _ => fun
  | [d1, d2, d3, d4, d5] => { results := [.lit (.bool false)], args := [d1, d2, d3, d4, d5] }
  | _ => none }
def SchemaHasWrongFalsely : Prop := schemaHasRow.holds Try.pinned (OpenSpec.ofChange schemaHasWrong)

/-- 'canopylaw8.SchemaKnown': WHATEVER THE INPUT: true; the input reads as it did. -/
def schemaKnownSpec : ChangeSpec := { name := "schemaKnown", fn := fun _ => fun
  | [d] => { results := [.lit (.bool true)], args := [d] }
  | _ => none }
def schemaKnownRow : OpenClaim := { program := "ytlenlhlipmkeeaa", sum := "956648dbb2bbbd8c77c574d9d396608d31ae397a0b43be4ba0580bbb11618bc5", func := "canopy/canopylaw8.SchemaKnown", spec := "schemaKnown", inPlace := ["internal/abi.NoEscape", "internal/bytealg.MakeNoZero"], unfollowed := true, recurses := true, plainKeys := false, apart := false }
def SchemaKnownSaid : Prop := schemaKnownRow.holds Try.pinned (OpenSpec.ofChange schemaKnownSpec)

/-- ITS FALSE NEIGHBOUR: 'it returns false'. Refute it at one input. -/
def schemaKnownWrong : ChangeSpec := { name := "schemaKnown", fn := fun _ => fun
  | [d] => { results := [.lit (.bool false)], args := [d] }
  | _ => none }
def SchemaKnownWrongFalsely : Prop := schemaKnownRow.holds Try.pinned (OpenSpec.ofChange schemaKnownWrong)

/-- 'canopylaw8.SchemaTrees': WHATEVER THE INPUT: true; the input reads as it did. -/
def schemaTreesSpec : ChangeSpec := { name := "schemaTrees", fn := fun _ => fun
  | [d1, d2, d3] => { results := [.lit (.bool true)], args := [d1, d2, d3] }
  | _ => none }
def schemaTreesRow : OpenClaim := { program := "ytlenlhlipmkeeaa", sum := "956648dbb2bbbd8c77c574d9d396608d31ae397a0b43be4ba0580bbb11618bc5", func := "canopy/canopylaw8.SchemaTrees", spec := "schemaTrees", inPlace := ["internal/abi.NoEscape", "internal/bytealg.MakeNoZero"], unfollowed := true, recurses := true, plainKeys := false, apart := false }
def SchemaTreesSaid : Prop := schemaTreesRow.holds Try.pinned (OpenSpec.ofChange schemaTreesSpec)

/-- ITS FALSE NEIGHBOUR: 'it returns false'. Refute it at one input. -/
def schemaTreesWrong : ChangeSpec := { name := "schemaTrees", fn := fun _ => fun
  | [d1, d2, d3] => { results := [.lit (.bool false)], args := [d1, d2, d3] }
  | _ => none }
def SchemaTreesWrongFalsely : Prop := schemaTreesRow.holds Try.pinned (OpenSpec.ofChange schemaTreesWrong)

/-- 'canopylaw8.SchemaForms': WHATEVER THE INPUT: true; the input reads as it did. -/
def schemaFormsSpec : ChangeSpec := { name := "schemaForms", fn := fun _ => fun
  | [d] => { results := [.lit (.bool true)], args := [d] }
  | _ => none }
def schemaFormsRow : OpenClaim := { program := "ytlenlhlipmkeeaa", sum := "956648dbb2bbbd8c77c574d9d396608d31ae397a0b43be4ba0580bbb11618bc5", func := "canopy/canopylaw8.SchemaForms", spec := "schemaForms", inPlace := ["internal/abi.NoEscape", "internal/bytealg.MakeNoZero"], unfollowed := true, recurses := true, plainKeys := false, apart := false }
def SchemaFormsSaid : Prop := schemaFormsRow.holds Try.pinned (OpenSpec.ofChange schemaFormsSpec)

/-- ITS FALSE NEIGHBOUR: 'it returns false'. Refute it at one input. -/
def schemaFormsWrong : ChangeSpec := { name := "schemaForms", fn := fun _ => fun
  | [d] => { results := [.lit (.bool false)], args := [d] }
  | _ => none }
def SchemaFormsWrongFalsely : Prop := schemaFormsRow.holds Try.pinned (OpenSpec.ofChange schemaFormsWrong)

/-- 'canopylaw8.SchemaModels': WHATEVER THE INPUT: true; the input reads as it did. -/
def schemaModelsSpec : ChangeSpec := { name := "schemaModels", fn := fun _ => fun
  | [d1, d2] => { results := [.lit (.bool true)], args := [d1, d2] }
  | _ => none }
def schemaModelsRow : OpenClaim := { program := "ytlenlhlipmkeeaa", sum := "956648dbb2bbbd8c77c574d9d396608d31ae397a0b43be4ba0580bbb11618bc5", func := "canopy/canopylaw8.SchemaModels", spec := "schemaModels", inPlace := ["internal/abi.NoEscape", "internal/bytealg.MakeNoZero"], unfollowed := true, recurses := true, plainKeys := false, apart := false }
def SchemaModelsSaid : Prop := schemaModelsRow.holds Try.pinned (OpenSpec.ofChange schemaModelsSpec)

/-- ITS FALSE NEIGHBOUR: 'it returns false'. Refute it at one input. -/
def schemaModelsWrong : ChangeSpec := { name := "schemaModels", fn := fun _ => fun
  | [d1, d2] => { results := [.lit (.bool false)], args := [d1, d2] }
  | _ => none }
def SchemaModelsWrongFalsely : Prop := schemaModelsRow.holds Try.pinned (OpenSpec.ofChange schemaModelsWrong)

/-- 'canopylaw8.SchemaBlanks': WHATEVER THE INPUT: true; the input reads as it did. -/
def schemaBlanksSpec : ChangeSpec := { name := "schemaBlanks", fn := fun _ => fun
  | [d1, d2, d3] => { results := [.lit (.bool true)], args := [d1, d2, d3] }
  | _ => none }
def schemaBlanksRow : OpenClaim := { program := "ytlenlhlipmkeeaa", sum := "956648dbb2bbbd8c77c574d9d396608d31ae397a0b43be4ba0580bbb11618bc5", func := "canopy/canopylaw8.SchemaBlanks", spec := "schemaBlanks", inPlace := ["internal/abi.NoEscape", "internal/bytealg.MakeNoZero"], unfollowed := true, recurses := true, plainKeys := false, apart := false }
def SchemaBlanksSaid : Prop := schemaBlanksRow.holds Try.pinned (OpenSpec.ofChange schemaBlanksSpec)

/-- ITS FALSE NEIGHBOUR: 'it returns false'. Refute it at one input. -/
def schemaBlanksWrong : ChangeSpec := { name := "schemaBlanks", fn := fun _ => fun
  | [d1, d2, d3] => { results := [.lit (.bool false)], args := [d1, d2, d3] }
  | _ => none }
def SchemaBlanksWrongFalsely : Prop := schemaBlanksRow.holds Try.pinned (OpenSpec.ofChange schemaBlanksWrong)

/-- 'canopylaw8.SchemaNames': WHATEVER THE INPUT: true; the input reads as it did. -/
def schemaNamesSpec : ChangeSpec := { name := "schemaNames", fn := fun _ => fun
  | [d1, d2] => { results := [.lit (.bool true)], args := [d1, d2] }
  | _ => none }
def schemaNamesRow : OpenClaim := { program := "ytlenlhlipmkeeaa", sum := "956648dbb2bbbd8c77c574d9d396608d31ae397a0b43be4ba0580bbb11618bc5", func := "canopy/canopylaw8.SchemaNames", spec := "schemaNames", inPlace := ["internal/abi.NoEscape", "internal/bytealg.MakeNoZero"], unfollowed := true, recurses := true, plainKeys := false, apart := false }
def SchemaNamesSaid : Prop := schemaNamesRow.holds Try.pinned (OpenSpec.ofChange schemaNamesSpec)

/-- ITS FALSE NEIGHBOUR: 'it returns false'. Refute it at one input. -/
def schemaNamesWrong : ChangeSpec := { name := "schemaNames", fn := fun _ => fun
  | [d1, d2] => { results := [.lit (.bool false)], args := [d1, d2] }
  | _ => none }
def SchemaNamesWrongFalsely : Prop := schemaNamesRow.holds Try.pinned (OpenSpec.ofChange schemaNamesWrong)

/-- 'canopylaw8.SchemaOwn': WHATEVER THE INPUT: true; the input reads as it did. -/
def schemaOwnSpec : ChangeSpec := { name := "schemaOwn", fn := fun _ => fun
  | [d1, d2, d3] => { results := [.lit (.bool true)], args := [d1, d2, d3] }
  | _ => none }
def schemaOwnRow : OpenClaim := { program := "ytlenlhlipmkeeaa", sum := "956648dbb2bbbd8c77c574d9d396608d31ae397a0b43be4ba0580bbb11618bc5", func := "canopy/canopylaw8.SchemaOwn", spec := "schemaOwn", inPlace := ["internal/abi.NoEscape", "internal/bytealg.MakeNoZero"], unfollowed := true, recurses := true, plainKeys := false, apart := false }
def SchemaOwnSaid : Prop := schemaOwnRow.holds Try.pinned (OpenSpec.ofChange schemaOwnSpec)

/-- ITS FALSE NEIGHBOUR: 'it returns false'. Refute it at one input. -/
def schemaOwnWrong : ChangeSpec := { name := "schemaOwn", fn := fun _ => fun
  | [d1, d2, d3] => { results := [.lit (.bool false)], args := [d1, d2, d3] }
  | _ => none }
def SchemaOwnWrongFalsely : Prop := schemaOwnRow.holds Try.pinned (OpenSpec.ofChange schemaOwnWrong)

/- THE SECOND FORM. 'bulk': how many values and letters a reading holds, each counted each time it is reached (what is shared counts as often as it is met; a slice's spare places count too). A statement '..UptoSaid' is the law's where the arguments, and the package variables that the reading takes, are together of bulk at most 1048576: NARROWER than '..Said'. Prove '..Said' where nothing that the law and all that it calls make is longer than what came in: it says more and counts as full. Else prove '..UptoSaid'. A law counts once. -/
mutual
def uptoBulk {H : Type} : DataW H → Nat
  | .lit (.string bytes) => bytes.length + 1
  | .lit _ => 1
  | .nil => 1
  | .ptr d => uptoBulk d + 1
  | .slice elems spare => uptoBulkAll elems + uptoBulkAll spare + 1
  | .agg parts => uptoBulkAll parts + 1
  | .iface _ d => uptoBulk d + 1
  | .map entries => uptoBulkEntries entries + 1
  | .held _ => 1
def uptoBulkAll {H : Type} : List (DataW H) → Nat
  | [] => 0
  | d :: r => uptoBulk d + uptoBulkAll r
def uptoBulkEntries {H : Type} : List (Lit × DataW H) → Nat
  | [] => 0
  | x :: r => uptoBulkEntry x + uptoBulkEntries r
def uptoBulkEntry {H : Type} : Lit × DataW H → Nat
  | (.string bytes, d) => bytes.length + uptoBulk d + 1
  | (_, d) => uptoBulk d + 1
 end
def uptoSmall : (H : Type) → List (DataW H) → Bool := fun _ ds => decide (uptoBulkAll ds ≤ 1048576)
def OpenSpec.upto (s : _root_.Go.ChangeSpec) : _root_.Go.OpenSpec := { _root_.Go.OpenSpec.ofChange s with cond := some uptoSmall }

/-- 'canopylaw8.SchemaReads', WHERE WHAT IT READS IS OF BULK AT MOST 1048576: true; the input reads as it did. -/
def schemaReadsUptoRow : OpenClaim := { program := "ytlenlhlipmkeeaa", sum := "956648dbb2bbbd8c77c574d9d396608d31ae397a0b43be4ba0580bbb11618bc5", func := "canopy/canopylaw8.SchemaReads", spec := "schemaReads", inPlace := ["internal/abi.NoEscape", "internal/bytealg.MakeNoZero"], unfollowed := true, recurses := true, plainKeys := false, apart := false, narrowed := true }
def SchemaReadsUptoSaid : Prop := schemaReadsUptoRow.holds Try.pinned (OpenSpec.upto schemaReadsSpec)

/-- 'canopylaw8.SchemaHas', WHERE WHAT IT READS IS OF BULK AT MOST 1048576: true; the input reads as it did. -/
def schemaHasUptoRow : OpenClaim := { program := "ytlenlhlipmkeeaa", sum := "956648dbb2bbbd8c77c574d9d396608d31ae397a0b43be4ba0580bbb11618bc5", func := "canopy/canopylaw8.SchemaHas", spec := "schemaHas", inPlace := ["internal/abi.NoEscape", "internal/bytealg.MakeNoZero"], unfollowed := true, recurses := true, plainKeys := false, apart := false, narrowed := true }
def SchemaHasUptoSaid : Prop := schemaHasUptoRow.holds Try.pinned (OpenSpec.upto schemaHasSpec)

/-- 'canopylaw8.SchemaKnown', WHERE WHAT IT READS IS OF BULK AT MOST 1048576: true; the input reads as it did. -/
def schemaKnownUptoRow : OpenClaim := { program := "ytlenlhlipmkeeaa", sum := "956648dbb2bbbd8c77c574d9d396608d31ae397a0b43be4ba0580bbb11618bc5", func := "canopy/canopylaw8.SchemaKnown", spec := "schemaKnown", inPlace := ["internal/abi.NoEscape", "internal/bytealg.MakeNoZero"], unfollowed := true, recurses := true, plainKeys := false, apart := false, narrowed := true }
def SchemaKnownUptoSaid : Prop := schemaKnownUptoRow.holds Try.pinned (OpenSpec.upto schemaKnownSpec)

/-- 'canopylaw8.SchemaTrees', WHERE WHAT IT READS IS OF BULK AT MOST 1048576: true; the input reads as it did. -/
def schemaTreesUptoRow : OpenClaim := { program := "ytlenlhlipmkeeaa", sum := "956648dbb2bbbd8c77c574d9d396608d31ae397a0b43be4ba0580bbb11618bc5", func := "canopy/canopylaw8.SchemaTrees", spec := "schemaTrees", inPlace := ["internal/abi.NoEscape", "internal/bytealg.MakeNoZero"], unfollowed := true, recurses := true, plainKeys := false, apart := false, narrowed := true }
def SchemaTreesUptoSaid : Prop := schemaTreesUptoRow.holds Try.pinned (OpenSpec.upto schemaTreesSpec)

/-- 'canopylaw8.SchemaForms', WHERE WHAT IT READS IS OF BULK AT MOST 1048576: true; the input reads as it did. -/
def schemaFormsUptoRow : OpenClaim := { program := "ytlenlhlipmkeeaa", sum := "956648dbb2bbbd8c77c574d9d396608d31ae397a0b43be4ba0580bbb11618bc5", func := "canopy/canopylaw8.SchemaForms", spec := "schemaForms", inPlace := ["internal/abi.NoEscape", "internal/bytealg.MakeNoZero"], unfollowed := true, recurses := true, plainKeys := false, apart := false, narrowed := true }
def SchemaFormsUptoSaid : Prop := schemaFormsUptoRow.holds Try.pinned (OpenSpec.upto schemaFormsSpec)

/-- 'canopylaw8.SchemaModels', WHERE WHAT IT READS IS OF BULK AT MOST 1048576: true; the input reads as it did. -/
def schemaModelsUptoRow : OpenClaim := { program := "ytlenlhlipmkeeaa", sum := "956648dbb2bbbd8c77c574d9d396608d31ae397a0b43be4ba0580bbb11618bc5", func := "canopy/canopylaw8.SchemaModels", spec := "schemaModels", inPlace := ["internal/abi.NoEscape", "internal/bytealg.MakeNoZero"], unfollowed := true, recurses := true, plainKeys := false, apart := false, narrowed := true }
def SchemaModelsUptoSaid : Prop := schemaModelsUptoRow.holds Try.pinned (OpenSpec.upto schemaModelsSpec)

/-- 'canopylaw8.SchemaBlanks', WHERE WHAT IT READS IS OF BULK AT MOST 1048576: true; the input reads as it did. -/
def schemaBlanksUptoRow : OpenClaim := { program := "ytlenlhlipmkeeaa", sum := "956648dbb2bbbd8c77c574d9d396608d31ae397a0b43be4ba0580bbb11618bc5", func := "canopy/canopylaw8.SchemaBlanks", spec := "schemaBlanks", inPlace := ["internal/abi.NoEscape", "internal/bytealg.MakeNoZero"], unfollowed := true, recurses := true, plainKeys := false, apart := false, narrowed := true }
def SchemaBlanksUptoSaid : Prop := schemaBlanksUptoRow.holds Try.pinned (OpenSpec.upto schemaBlanksSpec)

/-- 'canopylaw8.SchemaNames', WHERE WHAT IT READS IS OF BULK AT MOST 1048576: true; the input reads as it did. -/
def schemaNamesUptoRow : OpenClaim := { program := "ytlenlhlipmkeeaa", sum := "956648dbb2bbbd8c77c574d9d396608d31ae397a0b43be4ba0580bbb11618bc5", func := "canopy/canopylaw8.SchemaNames", spec := "schemaNames", inPlace := ["internal/abi.NoEscape", "internal/bytealg.MakeNoZero"], unfollowed := true, recurses := true, plainKeys := false, apart := false, narrowed := true }
def SchemaNamesUptoSaid : Prop := schemaNamesUptoRow.holds Try.pinned (OpenSpec.upto schemaNamesSpec)

/-- 'canopylaw8.SchemaOwn', WHERE WHAT IT READS IS OF BULK AT MOST 1048576: true; the input reads as it did. -/
def schemaOwnUptoRow : OpenClaim := { program := "ytlenlhlipmkeeaa", sum := "956648dbb2bbbd8c77c574d9d396608d31ae397a0b43be4ba0580bbb11618bc5", func := "canopy/canopylaw8.SchemaOwn", spec := "schemaOwn", inPlace := ["internal/abi.NoEscape", "internal/bytealg.MakeNoZero"], unfollowed := true, recurses := true, plainKeys := false, apart := false, narrowed := true }
def SchemaOwnUptoSaid : Prop := schemaOwnUptoRow.holds Try.pinned (OpenSpec.upto schemaOwnSpec)

end Rows
end Go.Proofs.Ytlenlhlipmkeeaa
