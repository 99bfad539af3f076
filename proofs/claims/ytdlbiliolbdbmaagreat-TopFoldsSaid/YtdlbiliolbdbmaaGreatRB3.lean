/- Parts of a proof, joined by a program. Conditions: none. -/
import Derived.Test.YtdlbiliolbdbmaaGreatRB2
import Derived.Test.YtdlbiliolbdbmaaGreatChecked

section
/- Top's laws: known() is true. Conditions: none. -/
namespace Go.Proofs.YtdlbiliolbdbmaaGreat.W
open Go Go.AM Go.Proofs
set_option maxRecDepth 100000
theorem ran6 : callB2 Tryz.prog orcT 2000 40 6 [] hs0 (fun v _ => isTrueV v) = true := by kernel_rfl
theorem mixed6 : Tryz.prog.follows .mixedOrders = true := by kernel_rfl
theorem known6 {h : AH} {K : Value → AH → Prop} (k : K (.bool true) h) : callW Tryz.prog 6 [] h K :=
  callW_pure mixed6 rfl (run2_true orcT_ok ran6) k
end Go.Proofs.YtdlbiliolbdbmaaGreat.W
end
