/- Parts of a proof, joined by a program. Conditions: none. -/
import Derived.Test.YtlenlhlipmkeeaaRB0
import Derived.Test.YtlenlhlipmkeeaaRB1
import Derived.Test.YtlenlhlipmkeeaaRB2
import Derived.Test.YtlenlhlipmkeeaaRB3
import Derived.Test.YtlenlhlipmkeeaaRB4
import Derived.Test.YtlenlhlipmkeeaaRB5
import Derived.Test.YtlenlhlipmkeeaaRS0

section
/- SchemaKnown's walk. Conditions: none. -/
namespace Go.Proofs.Ytlenlhlipmkeeaa.W
open Go Go.AM
set_option maxRecDepth 100000
theorem lenSl_lit (a : Option Addr) (n c : Nat) : lenSl (.slice a n c) = some (.int .i64 n) := rfl
theorem s5_at (a i : Int) (h : AH) (K : Value → AH → Prop) : s5 (callX Try.prog 15 [.int .i64 a, .int .i64 ((20 : Nat) : Int)] [.int .i64 i, .int .i64 ((20 : Nat) : Int)]) (.int .i64 a) h K = s5 (callW Try.prog) (.int .i64 i) h K := by
  unfold s5
  simp only [lenSl_lit, optW_some, callX_eq, callX_ne (show (12 : Nat) ≠ 15 by decide), callX_ne (show (17 : Nat) ≠ 15 by decide)]
theorem schemaKnown_walk (h : AH) (a : Int) (_ : -9223372036854775808 ≤ a ∧ a ≤ 9223372036854775807) (hh : h = []) : callW Try.prog 5 [.int .i64 a] h fun v _ => v = .bool true := by
  subst hh
  have h0 := Int.emod_nonneg a (show ((20 : Nat) : Int) ≠ 0 by decide)
  have h1 := Int.emod_lt_of_pos a (show (0 : Int) < ((20 : Nat) : Int) by decide)
  refine split_within (S := s5) (n := ((20 : Nat) : Int)) Try.func5 (by kernel_rfl) e5 (fun a h K hk => within15 a _ h K (by decide) (by decide) hk) (fun i h K q1 q2 q3 => within15_inv i _ h K q1 q2 q3) a (a % ((20 : Nat) : Int)) (s5_at _ _ _ _) h0 h1 rfl ?_
  generalize a % ((20 : Nat) : Int) = r at *
  have : r = 0 ∨ r = 1 ∨ r = 2 ∨ r = 3 ∨ r = 4 ∨ r = 5 ∨ r = 6 ∨ r = 7 ∨ r = 8 ∨ r = 9 ∨ r = 10 ∨ r = 11 ∨ r = 12 ∨ r = 13 ∨ r = 14 ∨ r = 15 ∨ r = 16 ∨ r = 17 ∨ r = 18 ∨ r = 19 := by omega
  rcases this with rfl | rfl | rfl | rfl | rfl | rfl | rfl | rfl | rfl | rfl | rfl | rfl | rfl | rfl | rfl | rfl | rfl | rfl | rfl | rfl
  · exact run_true (orcJoin_ok join88) knw_0
  · exact run_true (orcJoin_ok join88) knw_1
  · exact run_true (orcJoin_ok join88) knw_2
  · exact run_true (orcJoin_ok join88) knw_3
  · exact run_true (orcJoin_ok join88) knw_4
  · exact run_true (orcJoin_ok join88) knw_5
  · exact run_true (orcJoin_ok join88) knw_6
  · exact run_true (orcJoin_ok join88) knw_7
  · exact run_true (orcJoin_ok join88) knw_8
  · exact run_true (orcJoin_ok join88) knw_9
  · exact run_true (orcJoin_ok join88) knw_10
  · exact run_true (orcJoin_ok join88) knw_11
  · exact run_true (orcJoin_ok join88) knw_12
  · exact run_true (orcJoin_ok join88) knw_13
  · exact run_true (orcJoin_ok join88) knw_14
  · exact run_true (orcJoin_ok join88) knw_15
  · exact run_true (orcJoin_ok join88) knw_16
  · exact run_true (orcJoin_ok join88) knw_17
  · exact run_true (orcJoin_ok join88) knw_18
  · exact run_true (orcJoin_ok join88) knw_19
end Go.Proofs.Ytlenlhlipmkeeaa.W
end
