/- Parts of a proof, joined by a program. Conditions: none. -/
import Derived.Test.YtlenlhlipmkeeaaRB0

section
/- SchemaKnown's runs. Conditions: none. -/
namespace Go.Proofs.Ytlenlhlipmkeeaa.W
open Go Go.AM
set_option maxRecDepth 100000
theorem knw_0 : callB Try.prog (orcJoin 88) 10000 40 5 [.int .i64 0] hs0 (fun v _ => isTrueV v) = true := by kernel_rfl
theorem knw_1 : callB Try.prog (orcJoin 88) 10000 40 5 [.int .i64 1] hs0 (fun v _ => isTrueV v) = true := by kernel_rfl
theorem knw_2 : callB Try.prog (orcJoin 88) 10000 40 5 [.int .i64 2] hs0 (fun v _ => isTrueV v) = true := by kernel_rfl
theorem knw_3 : callB Try.prog (orcJoin 88) 10000 40 5 [.int .i64 3] hs0 (fun v _ => isTrueV v) = true := by kernel_rfl
end Go.Proofs.Ytlenlhlipmkeeaa.W
end
