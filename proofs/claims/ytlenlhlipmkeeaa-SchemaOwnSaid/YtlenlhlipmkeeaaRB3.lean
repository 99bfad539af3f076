/- Parts of a proof, joined by a program. Conditions: none. -/
import Derived.Test.YtlenlhlipmkeeaaRB2
import Derived.Test.YtlenlhlipmkeeaaChecked
import Derived.Test.YtlenlhlipmkeeaaRA2

section
/- Schema's laws: known() is true, from any small heap. Conditions: none. -/
namespace Go.Proofs.Ytlenlhlipmkeeaa.W
open Go Go.AM
set_option linter.unusedVariables false
set_option maxRecDepth 100000
theorem ran12_0 : callB Try.prog (orcJoin 88) 20000 40 12 [] (hsD 0) (fun v _ => isTrueV v) = true := by kernel_rfl
theorem ran12_1 : callB Try.prog (orcJoin 88) 20000 40 12 [] (hsD 1) (fun v _ => isTrueV v) = true := by kernel_rfl
theorem ran12_2 : callB Try.prog (orcJoin 88) 20000 40 12 [] (hsD 2) (fun v _ => isTrueV v) = true := by kernel_rfl
theorem known12 {h : AH} {K : Value → AH → Prop} (hm : h.length = 0 ∨ h.length = 1 ∨ h.length = 2) (k : ∀ h', Ex h h' → K (.bool true) h') : callW Try.prog 12 [] h K := by
  have : callW Try.prog 12 [] h fun v h' => v = .bool true ∧ Ex h h' := by
    rcases hm with hm | hm | hm
    · exact run_any (orcJoin_ok join88) 0 (by decide) ran12_0 h hm
    · exact run_any (orcJoin_ok join88) 1 (by decide) ran12_1 h hm
    · exact run_any (orcJoin_ok join88) 2 (by decide) ran12_2 h hm
  refine callW_mono _ _ _ _ _ ?_ this
  rintro v h' ⟨rfl, x⟩
  exact k h' x
end Go.Proofs.Ytlenlhlipmkeeaa.W
end
