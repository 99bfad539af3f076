/- Parts of a proof, joined by a program. Conditions: none. -/
import Derived.Test.YtnpbehfhncbjfaaRB1
import Derived.Test.YtnpbehfhncbjfaaRA2

section
/- FoldErrs' walk. Conditions: none. -/
namespace Go.Proofs.Ytnpbehfhncbjfaa.W
open Go Go.AM
set_option linter.unusedVariables false
set_option maxRecDepth 100000
theorem ran13_1 : callB Try.prog noOrc 10000 30 13 [] (hsD 1) (fun v _ => isTrueV v) = true := by kernel_rfl
theorem ran13_2 : callB Try.prog noOrc 10000 30 13 [] (hsD 2) (fun v _ => isTrueV v) = true := by kernel_rfl
theorem ran13_3 : callB Try.prog noOrc 10000 30 13 [] (hsD 3) (fun v _ => isTrueV v) = true := by kernel_rfl
theorem known13 {h : AH} {K : Value → AH → Prop} (hm : h.length = 1 ∨ h.length = 2 ∨ h.length = 3) (k : ∀ h', Ex h h' → K (.bool true) h') : callW Try.prog 13 [] h K := by
  have : callW Try.prog 13 [] h fun v h' => v = .bool true ∧ Ex h h' := by
    rcases hm with hm | hm | hm
    · exact run_any noOrc_ok 1 (by decide) ran13_1 h hm
    · exact run_any noOrc_ok 2 (by decide) ran13_2 h hm
    · exact run_any noOrc_ok 3 (by decide) ran13_3 h hm
  refine callW_mono _ _ _ _ _ ?_ this
  rintro v h' ⟨rfl, x⟩
  exact k h' x
theorem res18 (e : Env) (h : AH) : resList Try.prog e h Try.f18.results.toList = (rdRow true 8 (e 2) h).map fun v => [v, e 3] := by
  have h1 : Try.f18.results.toList = [.cell 2 28, .tmp 3] := by kernel_rfl
  have h2 : ∀ x, pLoad Try.prog 28 x h = rdRow true 8 x h := fun x => by kernel_rfl
  rw [h1]
  show (match pLoad Try.prog 28 (e 2) h with
    | some v => match resList Try.prog e h [.tmp 3] with
      | some vs => some (v :: vs)
      | none => none
    | none => none) = _
  rw [h2]
  cases rdRow true 8 (e 2) h <;> rfl
end Go.Proofs.Ytnpbehfhncbjfaa.W
end
