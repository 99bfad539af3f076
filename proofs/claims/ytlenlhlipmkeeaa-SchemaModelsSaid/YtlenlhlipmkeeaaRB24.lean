/- Parts of a proof, joined by a program. Conditions: none. -/
import Derived.Test.YtlenlhlipmkeeaaRB0
import Derived.Test.YtlenlhlipmkeeaaRB1
import Derived.Test.YtlenlhlipmkeeaaRB2
import Derived.Test.YtlenlhlipmkeeaaRB3
import Derived.Test.YtlenlhlipmkeeaaRB4
import Derived.Test.YtlenlhlipmkeeaaRB5
import Derived.Test.YtlenlhlipmkeeaaRB6
import Derived.Test.YtlenlhlipmkeeaaRB7
import Derived.Test.YtlenlhlipmkeeaaRB8
import Derived.Test.YtlenlhlipmkeeaaRB9
import Derived.Test.YtlenlhlipmkeeaaRB10
import Derived.Test.YtlenlhlipmkeeaaRB11
import Derived.Test.YtlenlhlipmkeeaaRB12
import Derived.Test.YtlenlhlipmkeeaaRB13
import Derived.Test.YtlenlhlipmkeeaaRB14
import Derived.Test.YtlenlhlipmkeeaaRB15
import Derived.Test.YtlenlhlipmkeeaaRB16
import Derived.Test.YtlenlhlipmkeeaaRB17
import Derived.Test.YtlenlhlipmkeeaaRB18
import Derived.Test.YtlenlhlipmkeeaaRB19
import Derived.Test.YtlenlhlipmkeeaaRB20
import Derived.Test.YtlenlhlipmkeeaaRB21
import Derived.Test.YtlenlhlipmkeeaaRB22
import Derived.Test.YtlenlhlipmkeeaaRB23
import Derived.Test.YtlenlhlipmkeeaaRS0

section
/- SchemaModels' walk. Conditions: none. -/
namespace Go.Proofs.Ytlenlhlipmkeeaa.W
open Go Go.AM
set_option maxRecDepth 100000
theorem schemaModels_walk (h : AH) (a : Int) (_ : -9223372036854775808 ≤ a ∧ a ≤ 9223372036854775807) (b : Int) (_ : -9223372036854775808 ≤ b ∧ b ≤ 9223372036854775807) (hh : h = []) : callW Try.prog 8 [.int .i64 a, .int .i64 b] h fun v _ => v = .bool true := by
  subst hh
  have h0 := Int.emod_nonneg a (show ((15 : Nat) : Int) ≠ 0 by decide)
  have h1 := Int.emod_lt_of_pos a (show (0 : Int) < ((15 : Nat) : Int) by decide)
  have b0 := Int.emod_nonneg b (show (6 : Int) ≠ 0 by decide)
  have b1 := Int.emod_lt_of_pos b (show (0 : Int) < 6 by decide)
  have hx6 : (b % 6).toNat ∈ [0, 1, 2, 3, 4, 5] := by simp; omega
  have hx : (b % 6).toNat ∈ [0, 1, 2, 3] ∨ (b % 6).toNat ∈ [0, 4, 5] := by simp; omega
  generalize hr : a % ((15 : Nat) : Int) = r at *
  have : r = 0 ∨ r = 1 ∨ r = 2 ∨ r = 3 ∨ r = 4 ∨ r = 5 ∨ r = 6 ∨ r = 7 ∨ r = 8 ∨ r = 9 ∨ r = 10 ∨ r = 11 ∨ r = 12 ∨ r = 13 ∨ r = 14 := by omega
  rcases this with rfl | rfl | rfl | rfl | rfl | rfl | rfl | rfl | rfl | rfl | rfl | rfl | rfl | rfl | rfl
  · exact mod_at b (by decide) hx6 (by decide) (by decide) hr mod_0
  · exact mod_at b (by decide) hx6 (by decide) (by decide) hr mod_1
  · exact mod_at b (by decide) hx6 (by decide) (by decide) hr mod_2
  · exact mod_at b (by decide) hx6 (by decide) (by decide) hr mod_3
  · exact mod_at b (by decide) hx6 (by decide) (by decide) hr mod_4
  · exact mod_at b (by decide) hx6 (by decide) (by decide) hr mod_5
  · exact mod_at b (by decide) hx6 (by decide) (by decide) hr mod_6
  · exact hx.elim (fun hb => mod_at b (by decide) hb (by decide) (by decide) hr mod_7a) fun hb => mod_at b (by decide) hb (by decide) (by decide) hr mod_7b
  · exact hx.elim (fun hb => mod_at b (by decide) hb (by decide) (by decide) hr mod_8a) fun hb => mod_at b (by decide) hb (by decide) (by decide) hr mod_8b
  · exact hx.elim (fun hb => mod_at b (by decide) hb (by decide) (by decide) hr mod_9a) fun hb => mod_at b (by decide) hb (by decide) (by decide) hr mod_9b
  · exact hx.elim (fun hb => mod_at b (by decide) hb (by decide) (by decide) hr mod_10a) fun hb => mod_at b (by decide) hb (by decide) (by decide) hr mod_10b
  · exact hx.elim (fun hb => mod_at b (by decide) hb (by decide) (by decide) hr mod_11a) fun hb => mod_at b (by decide) hb (by decide) (by decide) hr mod_11b
  · exact hx.elim (fun hb => mod_at b (by decide) hb (by decide) (by decide) hr mod_12a) fun hb => mod_at b (by decide) hb (by decide) (by decide) hr mod_12b
  · exact hx.elim (fun hb => mod_at b (by decide) hb (by decide) (by decide) hr mod_13a) fun hb => mod_at b (by decide) hb (by decide) (by decide) hr mod_13b
  · exact hx.elim (fun hb => mod_at b (by decide) hb (by decide) (by decide) hr mod_14a) fun hb => mod_at b (by decide) hb (by decide) (by decide) hr mod_14b
end Go.Proofs.Ytlenlhlipmkeeaa.W
end
