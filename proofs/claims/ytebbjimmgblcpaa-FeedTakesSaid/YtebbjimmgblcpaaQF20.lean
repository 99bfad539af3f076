/- known, whatever stands below. Conditions: none. -/
import Derived.Test.YtebbjimmgblcpaaQF1
import Derived.Test.YtebbjimmgblcpaaQS2
import Derived.Test.YtebbjimmgblcpaaQA2
namespace Go.Proofs.Ytebbjimmgblcpaa.W
open Go Go.AM FeedM
set_option linter.unusedVariables false
set_option maxRecDepth 100000

theorem ran13_1 : callB Try.prog (orcWithin 18) 10000 30 13 [] (hsD 1) (fun v _ => isTrueV v) = true := by kernel_rfl
theorem ran13_2 : callB Try.prog (orcWithin 18) 10000 30 13 [] (hsD 2) (fun v _ => isTrueV v) = true := by kernel_rfl
theorem ran13_3 : callB Try.prog (orcWithin 18) 10000 30 13 [] (hsD 3) (fun v _ => isTrueV v) = true := by kernel_rfl

theorem known13 {h : AH} {K : Value → AH → Prop} (hm : h.length = 1 ∨ h.length = 2 ∨ h.length = 3) (k : ∀ h', Ex h h' → K (.bool true) h') : callW Try.prog 13 [] h K := by
  have : callW Try.prog 13 [] h fun v h' => v = .bool true ∧ Ex h h' := by
    rcases hm with hm | hm | hm
    · exact run_any (orcWithin_ok within18) 1 (by decide) ran13_1 h hm
    · exact run_any (orcWithin_ok within18) 2 (by decide) ran13_2 h hm
    · exact run_any (orcWithin_ok within18) 3 (by decide) ran13_3 h hm
  refine callW_mono _ _ _ _ _ ?_ this
  rintro v h' ⟨rfl, x⟩
  exact k h' x
end Go.Proofs.Ytebbjimmgblcpaa.W
