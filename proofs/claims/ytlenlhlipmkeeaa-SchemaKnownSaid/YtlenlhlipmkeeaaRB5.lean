/- Parts of a proof, joined by a program. Conditions: none. -/
import Derived.Test.YtlenlhlipmkeeaaRB0

section
/- SchemaKnown's runs. Conditions: none. -/
namespace Go.Proofs.Ytlenlhlipmkeeaa.W
open Go Go.AM
set_option maxRecDepth 100000
theorem knw_16 : callB Try.prog (orcJoin 88) 10000 40 5 [.int .i64 16] hs0 (fun v _ => isTrueV v) = true := by kernel_rfl
theorem knw_17 : callB Try.prog (orcJoin 88) 10000 40 5 [.int .i64 17] hs0 (fun v _ => isTrueV v) = true := by kernel_rfl
theorem knw_18 : callB Try.prog (orcJoin 88) 10000 40 5 [.int .i64 18] hs0 (fun v _ => isTrueV v) = true := by kernel_rfl
theorem knw_19 : callB Try.prog (orcJoin 88) 10000 40 5 [.int .i64 19] hs0 (fun v _ => isTrueV v) = true := by kernel_rfl
end Go.Proofs.Ytlenlhlipmkeeaa.W
end
