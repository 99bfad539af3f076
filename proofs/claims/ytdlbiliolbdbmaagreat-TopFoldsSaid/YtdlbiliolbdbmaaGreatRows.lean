/-
  No cell of these rows narrows 'for every input' (looked for: loops, veiled, ifaces, maps, wideKeys, modest, calm, conditions, laid).
  DERIVED. THE GIVEN ROWS OF THIS SEAT. 3 by the template 'for every input the law returns true; each argument reads behind the call as it read before'; 0 by the template 'total and deterministic' (their statements: YtdlbiliolbdbmaaGreatTotals.lean).
  GIVEN WITH THE SEED: the statements are not yours to turn. If you find one false, say at which input.
  Laid BY PROGRAM, IN A SANDBOX (cutbox-rows.mjs): the forced cells as the released guide's own fill.sh prints them over the translation c1cc90fa02eaa25f… (all of the seat's roots in one cut). By AI agents, Wed Nov 11 2026. No macro, syntax, notation, axiom, sorry.
-/
import Derived.Test.YtdlbiliolbdbmaaGreatChecked
import GoSem.Claim
import GoSem.ClaimJoined
import GoSem.ClaimMapViews
import Derived.JoinedTies
import Derived.KernelRfl
namespace Go.Proofs.YtdlbiliolbdbmaaGreat
/- THE CELL 'sum', in the pinned program and in every row, IS THE sha256 OF THE DUMP (.gsa) THAT YtdlbiliolbdbmaaGreatProg.lean LOADS. Nothing in Lean hashes anything: it is a label: what it is worth is what the hold of that sum in a sandbox is worth. -/
noncomputable def Tryz.pinned : Pinned := { name := "ytdlbiliolbdbmaagreat", sum := "c1cc90fa02eaa25f86e265376b77aaf4bc4f6868f3094091d64758e42e1122fc", checked := Tryz.checked }
namespace Rows
def none {H : Type} : Left H := { results := [], args := [] }

/-- 'canopytop.TopMarks': WHATEVER THE INPUT: true; the input reads as it did. -/
def topMarksSpec : ChangeSpec := { name := "topMarks", fn := fun _ => fun
  | [d1, d2] => { results := [.lit (.bool true)], args := [d1, d2] }
  | _ => none }
def topMarksRow : OpenClaim := { program := "ytdlbiliolbdbmaagreat", sum := "c1cc90fa02eaa25f86e265376b77aaf4bc4f6868f3094091d64758e42e1122fc", func := "canopy/canopytop.TopMarks", spec := "topMarks", inPlace := ["internal/bytealg.IndexByteString"], unfollowed := true, recurses := true, plainKeys := false, apart := false }
def TopMarksSaid : Prop := topMarksRow.holds Tryz.pinned (OpenSpec.ofChange topMarksSpec)

/-- ITS FALSE NEIGHBOUR: 'it returns false'. Refute it at one input. -/
def topMarksWrong : ChangeSpec := { name := "topMarks", fn := fun _ => fun
  | [d1, d2] => { results := [.lit (.bool false)], args := [d1, d2] }
  | _ => none }
def TopMarksWrongFalsely : Prop := topMarksRow.holds Tryz.pinned (OpenSpec.ofChange topMarksWrong)

/-- 'canopytop.TopAnd': WHATEVER THE INPUT: true; the input reads as it did. -/
def topAndSpec : ChangeSpec := { name := "topAnd", fn := fun _ => fun
  | [d1, d2, d3] => { results := [.lit (.bool true)], args := [d1, d2, d3] }
  | _ => none }
def topAndRow : OpenClaim := { program := "ytdlbiliolbdbmaagreat", sum := "c1cc90fa02eaa25f86e265376b77aaf4bc4f6868f3094091d64758e42e1122fc", func := "canopy/canopytop.TopAnd", spec := "topAnd", inPlace := ["internal/bytealg.IndexByteString"], unfollowed := true, recurses := true, plainKeys := false, apart := false }
def TopAndSaid : Prop := topAndRow.holds Tryz.pinned (OpenSpec.ofChange topAndSpec)

/-- ITS FALSE NEIGHBOUR: 'it returns false'. Refute it at one input. -/
def topAndWrong : ChangeSpec := { name := "topAnd", fn := fun _ => fun
  | [d1, d2, d3] => { results := [.lit (.bool false)], args := [d1, d2, d3] }
  | _ => none }
def TopAndWrongFalsely : Prop := topAndRow.holds Tryz.pinned (OpenSpec.ofChange topAndWrong)

/-- 'canopytop.TopFolds': WHATEVER THE INPUT: true; the input reads as it did. -/
def topFoldsSpec : ChangeSpec := { name := "topFolds", fn := fun _ => fun
  | [d1, d2] => { results := [.lit (.bool true)], args := [d1, d2] }
  | _ => none }
def topFoldsRow : OpenClaim := { program := "ytdlbiliolbdbmaagreat", sum := "c1cc90fa02eaa25f86e265376b77aaf4bc4f6868f3094091d64758e42e1122fc", func := "canopy/canopytop.TopFolds", spec := "topFolds", inPlace := ["internal/bytealg.IndexByteString"], unfollowed := true, recurses := true, plainKeys := false, apart := false }
def TopFoldsSaid : Prop := topFoldsRow.holds Tryz.pinned (OpenSpec.ofChange topFoldsSpec)

/-- ITS FALSE NEIGHBOUR: 'it returns false'. Refute it at one input. -/
def topFoldsWrong : ChangeSpec := { name := "topFolds", fn := fun _ => fun
  | [d1, d2] => { results := [.lit (.bool false)], args := [d1, d2] }
  | _ => none }
def TopFoldsWrongFalsely : Prop := topFoldsRow.holds Tryz.pinned (OpenSpec.ofChange topFoldsWrong)

/- THE SECOND FORM. 'bulk': how many values and letters a reading holds, each counted each time it is reached (what is shared counts as often as it is met; a slice's spare places count too). A statement '..UptoSaid' is the law's where the arguments, and the package variables that the reading takes, are together of bulk at most 1048576: NARROWER than '..Said'. Prove '..Said' where nothing that the law and all that it calls make is longer than what came in: it says more and counts as full. Else prove '..UptoSaid'. A law counts once. -/
mutual
def uptoBulk {H : Type} : DataW H → Nat
  | .lit (.string bytes) => bytes.length + 1
  | .lit _ => 1
  | .nil => 1
  | .ptr d => uptoBulk d + 1
  | .slice elems spare => uptoBulkAll elems + uptoBulkAll spare + 1
  | .agg parts => uptoBulkAll parts + 1
  | .iface _ d => uptoBulk d + 1
  | .map entries => uptoBulkEntries entries + 1
  | .held _ => 1
def uptoBulkAll {H : Type} : List (DataW H) → Nat
  | [] => 0
  | d :: r => uptoBulk d + uptoBulkAll r
def uptoBulkEntries {H : Type} : List (Lit × DataW H) → Nat
  | [] => 0
  | x :: r => uptoBulkEntry x + uptoBulkEntries r
def uptoBulkEntry {H : Type} : Lit × DataW H → Nat
  | (.string bytes, d) => bytes.length + uptoBulk d + 1
  | (_, d) => uptoBulk d + 1
 end
def uptoSmall : (H : Type) → List (DataW H) → Bool := fun _ ds => decide (uptoBulkAll ds ≤ 1048576)
def OpenSpec.upto (s : _root_.Go.ChangeSpec) : _root_.Go.OpenSpec := { _root_.Go.OpenSpec.ofChange s with cond := some uptoSmall }

/-- 'canopytop.TopMarks', WHERE WHAT IT READS IS OF BULK AT MOST 1048576: true; the input reads as it did. -/
def topMarksUptoRow : OpenClaim := { program := "ytdlbiliolbdbmaagreat", sum := "c1cc90fa02eaa25f86e265376b77aaf4bc4f6868f3094091d64758e42e1122fc", func := "canopy/canopytop.TopMarks", spec := "topMarks", inPlace := ["internal/bytealg.IndexByteString"], unfollowed := true, recurses := true, plainKeys := false, apart := false, narrowed := true }
def TopMarksUptoSaid : Prop := topMarksUptoRow.holds Tryz.pinned (OpenSpec.upto topMarksSpec)

/-- 'canopytop.TopAnd', WHERE WHAT IT READS IS OF BULK AT MOST 1048576: true; the input reads as it did. -/
def topAndUptoRow : OpenClaim := { program := "ytdlbiliolbdbmaagreat", sum := "c1cc90fa02eaa25f86e265376b77aaf4bc4f6868f3094091d64758e42e1122fc", func := "canopy/canopytop.TopAnd", spec := "topAnd", inPlace := ["internal/bytealg.IndexByteString"], unfollowed := true, recurses := true, plainKeys := false, apart := false, narrowed := true }
def TopAndUptoSaid : Prop := topAndUptoRow.holds Tryz.pinned (OpenSpec.upto topAndSpec)

/-- 'canopytop.TopFolds', WHERE WHAT IT READS IS OF BULK AT MOST 1048576: true; the input reads as it did. -/
def topFoldsUptoRow : OpenClaim := { program := "ytdlbiliolbdbmaagreat", sum := "c1cc90fa02eaa25f86e265376b77aaf4bc4f6868f3094091d64758e42e1122fc", func := "canopy/canopytop.TopFolds", spec := "topFolds", inPlace := ["internal/bytealg.IndexByteString"], unfollowed := true, recurses := true, plainKeys := false, apart := false, narrowed := true }
def TopFoldsUptoSaid : Prop := topFoldsUptoRow.holds Tryz.pinned (OpenSpec.upto topFoldsSpec)

end Rows
end Go.Proofs.YtdlbiliolbdbmaaGreat
