/- Parts of a proof, joined by a program. Conditions: none. -/
import Derived.Test.YtlenlhlipmkeeaaRB0

section
/- SchemaKnown's runs. Conditions: none. -/
namespace Go.Proofs.Ytlenlhlipmkeeaa.W
open Go Go.AM
set_option maxRecDepth 100000
theorem knw_12 : callB Try.prog (orcJoin 88) 10000 40 5 [.int .i64 12] hs0 (fun v _ => isTrueV v) = true := by kernel_rfl
theorem knw_13 : callB Try.prog (orcJoin 88) 10000 40 5 [.int .i64 13] hs0 (fun v _ => isTrueV v) = true := by kernel_rfl
theorem knw_14 : callB Try.prog (orcJoin 88) 10000 40 5 [.int .i64 14] hs0 (fun v _ => isTrueV v) = true := by kernel_rfl
theorem knw_15 : callB Try.prog (orcJoin 88) 10000 40 5 [.int .i64 15] hs0 (fun v _ => isTrueV v) = true := by kernel_rfl
end Go.Proofs.Ytlenlhlipmkeeaa.W
end
