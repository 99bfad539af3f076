/- FoldKnown's runs. Conditions: none. -/
import Derived.Test.YtnpbehfhncbjfaaRFoldW1
namespace Go.Proofs.Ytnpbehfhncbjfaa.W
open Go Go.AM
set_option maxRecDepth 100000
theorem known_0 : callB Try.prog noOrc 10000 30 8 [.int .i64 0] hs0 (fun v _ => isTrueV v) = true := by kernel_rfl
theorem known_1 : callB Try.prog noOrc 10000 30 8 [.int .i64 1] hs0 (fun v _ => isTrueV v) = true := by kernel_rfl
theorem known_2 : callB Try.prog noOrc 10000 30 8 [.int .i64 2] hs0 (fun v _ => isTrueV v) = true := by kernel_rfl
theorem known_3 : callB Try.prog noOrc 10000 30 8 [.int .i64 3] hs0 (fun v _ => isTrueV v) = true := by kernel_rfl

end Go.Proofs.Ytnpbehfhncbjfaa.W
