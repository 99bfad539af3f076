/- Parts of a proof, joined by a program. Conditions: none. -/
import Derived.Test.YtlenlhlipmkeeaaRB0

section
/- SchemaKnown's runs. Conditions: none. -/
namespace Go.Proofs.Ytlenlhlipmkeeaa.W
open Go Go.AM
set_option maxRecDepth 100000
theorem knw_4 : callB Try.prog (orcJoin 88) 10000 40 5 [.int .i64 4] hs0 (fun v _ => isTrueV v) = true := by kernel_rfl
theorem knw_5 : callB Try.prog (orcJoin 88) 10000 40 5 [.int .i64 5] hs0 (fun v _ => isTrueV v) = true := by kernel_rfl
theorem knw_6 : callB Try.prog (orcJoin 88) 10000 40 5 [.int .i64 6] hs0 (fun v _ => isTrueV v) = true := by kernel_rfl
theorem knw_7 : callB Try.prog (orcJoin 88) 10000 40 5 [.int .i64 7] hs0 (fun v _ => isTrueV v) = true := by kernel_rfl
end Go.Proofs.Ytlenlhlipmkeeaa.W
end
