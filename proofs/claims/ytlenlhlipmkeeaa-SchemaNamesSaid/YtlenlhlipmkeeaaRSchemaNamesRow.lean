/- SchemaNames returns true, whatever comes in: the row, out of the walk. Conditions: none. -/
import Derived.Test.YtlenlhlipmkeeaaRows
import Derived.Test.YtlenlhlipmkeeaaChecked
import Derived.Test.YtlenlhlipmkeeaaRB4
import Derived.Test.YtlenlhlipmkeeaaRA2
import Derived.WalkKit
import Derived.ProofKit
import Derived.OpenShut
import Derived.ShutString
import Derived.ChangeOld
namespace Go.Proofs.Ytlenlhlipmkeeaa.SchemaNames
open Go Go.AM Go.ChangeShapes Go.WideShapes Go.ChangeAt Go.RowKit
open Go.ChangeMaps (open_string shut_string)
set_option linter.unusedVariables false

theorem mixed : Try.prog.follows .mixedOrders = true := by kernel_rfl
theorem own : ownKnob Try.prog.godebug = none := by kernel_rfl
theorem laidOut : laidOutB Try.prog = true := by kernel_rfl

set_option maxRecDepth 100000 in
theorem lifted (os : Os) (started : os.Started) (H : Type) (enc : TypeId × Value → H) :
    ReturnsInHanded {} Try.checked os 10 .any (Rows.schemaNamesSpec.pre6 enc Try.prog Try.f10 Rows.schemaNamesRow.domain false) (Rows.schemaNamesSpec.post enc Try.prog Try.f10 false true false false) := by
  refine returnsInHanded_of_change (C := Try.checked) own started (by kernel_rfl) Try.func10
    (ChangeSpec.witness6 (enc := enc) (C := Try.checked) false ⟨#[], #[.string ⟨#[]⟩, .int .i64 0], []⟩ 8 (by kernel_rfl) (by kernel_rfl) (by kernel_rfl) (by kernel_rfl)) ?_
  intro W base args ds gs before hval0 hW hcnd _
  have hval : ∀ (j : Nat) t v, Try.f10.params[j]? = some t → args[j]? = some v → Value.okWide Try.prog W .any base t v := hval0
  have hW' := hW
  obtain ⟨p, q, hA0, hV, rfl, hfz, hnd⟩ := hW
  have hA : DataW.TrodAll enc Try.prog W 0 (fun _ => true) true Try.f10.params.toList args.toList ds p := hA0
  rw [Try.params10] at hA hval
  obtain ⟨v0, vs0, d0, ds0, p0, q0, hargs, rfl, rfl, h0, r0⟩ := trodAll_cons hA
  obtain ⟨v1, vs1, d1, ds1, p1, q1, rfl, rfl, rfl, h1, r1⟩ := trodAll_cons r0
  obtain ⟨rfl, rfl, rfl⟩ := trodAll_nil r1
  obtain rfl : args = #[v0, v1] := by cases args; simp_all
  obtain ⟨rfl, rfl⟩ := trodVars_none hV
  obtain ⟨a0, rfl, rfl, rfl, w0⟩ := open_string Try.underlying9 (hval 0 9 v0 rfl rfl) h0
  obtain ⟨a1, rfl, rfl, rfl, w1⟩ := open_int Try.underlying3 (hval 1 3 v1 rfl rfl) h1
  clear hA0 hval0
  have hrel : Rel (βIn ([] : List InRow)) (([] : List InRow).map inObj) W := relIn _ W (by
    intro r hr
    cases hr)
  have hargs2 : ListR (βIn ([] : List InRow)) [.string a0, .int .i64 a1] #[.string a0, .int .i64 a1] := ⟨rfl, fun i hi => by
    match i with
    | 0 => exact .str _
    | 1 => exact .int _ _
    | _ + 2 => exact absurd hi (by simp only [List.length_cons, List.length_nil]; omega)⟩
  have hwalk := Go.Proofs.Ytlenlhlipmkeeaa.W.schemaNames_walk (([] : List InRow).map inObj) a0.data.toList w0 a1 (i64_wf w1) rfl
  refine (law_lift mixed hargs2 hrel (roIn _) hwalk).mono fun e W' ⟨he, bel⟩ => ?_
  subst he
  exact ⟨_, rfl, _, _, _, [], _, [], hW', trodAll_mk1 (shut_bool Try.underlying4 _), (trodAll_cons_mk (shut_string Try.underlying9 w0) (trodAll_cons_mk (shut_int Try.underlying3 w1) trodAll_mk0)), rfl, bel.frame _, fun h => by cases h⟩

theorem over : Rows.schemaNamesRow.holds Try.pinned (OpenSpec.ofChange Rows.schemaNamesSpec) :=
  OpenClaim.holds_of_wide 10 Try.f10 rfl rfl rfl rfl rfl rfl rfl ⟨rfl, rfl, rfl, rfl, rfl⟩ rfl rfl rfl rfl rfl (by kernel_rfl) Try.func10 (by kernel_rfl)
    (of_decide_eq_true (by kernel_rfl)) (by unfold Func.isWrapper; first | (rw [if_pos (by decide +kernel)]; kernel_rfl) | (rw [if_neg (by decide +kernel)]; exact ⟨rfl, rfl⟩))
    (fun os started H enc _ => lifted os started H enc)

end Go.Proofs.Ytlenlhlipmkeeaa.SchemaNames

namespace Go.Proofs.Ytlenlhlipmkeeaa
theorem schemaNames_holds : Rows.SchemaNamesSaid := SchemaNames.over
#print axioms schemaNames_holds
end Go.Proofs.Ytlenlhlipmkeeaa
