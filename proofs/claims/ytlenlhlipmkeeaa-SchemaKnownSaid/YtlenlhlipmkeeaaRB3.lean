/- Parts of a proof, joined by a program. Conditions: none. -/
import Derived.Test.YtlenlhlipmkeeaaRB0

section
/- SchemaKnown's runs. Conditions: none. -/
namespace Go.Proofs.Ytlenlhlipmkeeaa.W
open Go Go.AM
set_option maxRecDepth 100000
theorem knw_8 : callB Try.prog (orcJoin 88) 10000 40 5 [.int .i64 8] hs0 (fun v _ => isTrueV v) = true := by kernel_rfl
theorem knw_9 : callB Try.prog (orcJoin 88) 10000 40 5 [.int .i64 9] hs0 (fun v _ => isTrueV v) = true := by kernel_rfl
theorem knw_10 : callB Try.prog (orcJoin 88) 10000 40 5 [.int .i64 10] hs0 (fun v _ => isTrueV v) = true := by kernel_rfl
theorem knw_11 : callB Try.prog (orcJoin 88) 10000 40 5 [.int .i64 11] hs0 (fun v _ => isTrueV v) = true := by kernel_rfl
end Go.Proofs.Ytlenlhlipmkeeaa.W
end
