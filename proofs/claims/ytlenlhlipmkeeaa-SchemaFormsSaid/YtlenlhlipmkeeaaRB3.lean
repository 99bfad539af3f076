/- Parts of a proof, joined by a program. Conditions: none. -/
import Derived.Test.YtlenlhlipmkeeaaRB0
import Derived.Test.YtlenlhlipmkeeaaRB1
import Derived.Test.YtlenlhlipmkeeaaRB2
import Derived.Test.YtlenlhlipmkeeaaRS0

section
/- SchemaForms' walk. Conditions: none. -/
namespace Go.Proofs.Ytlenlhlipmkeeaa.W
open Go Go.AM
set_option maxRecDepth 100000
theorem s7_at (a i : Int) (h : AH) (K : Value → AH → Prop) : s7 (callX Try.prog 15 [.int .i64 a, .int .i64 8] [.int .i64 i, .int .i64 8]) (.int .i64 a) h K = s7 (callW Try.prog) (.int .i64 i) h K := by
  unfold s7
  simp only [callX_eq, callX_ne (show (12 : Nat) ≠ 15 by decide), callX_ne (show (17 : Nat) ≠ 15 by decide), callX_ne (show (26 : Nat) ≠ 15 by decide)]
theorem schemaForms_walk (h : AH) (a : Int) (_ : -9223372036854775808 ≤ a ∧ a ≤ 9223372036854775807) (hh : h = []) : callW Try.prog 7 [.int .i64 a] h fun v _ => v = .bool true := by
  subst hh
  have h0 := Int.emod_nonneg a (show (8 : Int) ≠ 0 by decide)
  have h1 := Int.emod_lt_of_pos a (show (0 : Int) < 8 by decide)
  refine split_within (S := s7) (n := 8) Try.func7 (by kernel_rfl) e7 (fun a h K hk => within15 a 8 h K (by decide) (by decide) hk) (fun i h K q1 q2 q3 => within15_inv i 8 h K q1 q2 q3) a (a % 8) (s7_at _ _ _ _) h0 h1 rfl ?_
  generalize a % 8 = r at *
  have : r = 0 ∨ r = 1 ∨ r = 2 ∨ r = 3 ∨ r = 4 ∨ r = 5 ∨ r = 6 ∨ r = 7 := by omega
  rcases this with rfl | rfl | rfl | rfl | rfl | rfl | rfl | rfl
  · exact run_true (orcJoin_ok join88) forms_0
  · exact run_true (orcJoin_ok join88) forms_1
  · exact run_true (orcJoin_ok join88) forms_2
  · exact run_true (orcJoin_ok join88) forms_3
  · exact run_true (orcJoin_ok join88) forms_4
  · exact run_true (orcJoin_ok join88) forms_5
  · exact run_true (orcJoin_ok join88) forms_6
  · exact run_true (orcJoin_ok join88) forms_7
end Go.Proofs.Ytlenlhlipmkeeaa.W
end
